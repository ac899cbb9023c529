import Derived.Test.YtikackodhiollaaGreatDoorProg
import Derived.Shelf.Strings.Builder1
import Derived.Shelf.Strings.OnBuilder
import Derived.Shelf.LaysM
import Derived.Shelf.Strconv.Itoa4
import Derived.Sort.AssemblyPlain
import Derived.Test.YtikackodhiollaaGreatDoorKitA
import Derived.Test.YtikackodhiollaaGreatDoorKit
/- Own work: lemmas of this claim. -/
namespace Go.Proofs.YtikackodhiollaaGreatDoor
open Go.Vc
@[irreducible] noncomputable def PP : Program := Tryz.prog
theorem PP_def : PP = Tryz.prog := by unfold PP; rfl
theorem PP_mixed : PP.follows .mixedOrders = true := by kernel_rfl
theorem eN {f : FuncId} (h : Enters Tryz.prog f) : Enters PP f := by rw [PP_def]; exact h
theorem fN {f : Nat} {x : Func} (h : Tryz.prog.funcs[f]? = some x) : PP.funcs[f]? = some x := by rw [PP_def]; exact h
instance : TShape PP 2 false 1 := ⟨fun w => by kernel_rfl, fun w => by kernel_rfl⟩
instance : TZeroV PP 2 (.int .i64 0) := ⟨fun w => by kernel_rfl⟩
instance : TUnd PP 2 (.int (.i64)) := ⟨by kernel_rfl⟩
instance : TShape PP 3 false 1 := ⟨fun w => by kernel_rfl, fun w => by kernel_rfl⟩
instance : TInfo PP 3 8 := ⟨fun w => ⟨Tryz.t3, by rw [PP_def]; exact Tryz.typeInfo3 w, rfl⟩⟩
instance : TZero PP 3 [.int .i64 0] := ⟨fun w => ⟨.int .i64 0, by kernel_rfl, by kernel_rfl⟩⟩
instance : TZeroV PP 3 (.int .i64 0) := ⟨fun w => by kernel_rfl⟩
instance : TUnd PP 3 (.int (.i64)) := ⟨by kernel_rfl⟩
instance : TShape PP 4 false 1 := ⟨fun w => by kernel_rfl, fun w => by kernel_rfl⟩
instance : TInfo PP 4 1 := ⟨fun w => ⟨Tryz.t4, by rw [PP_def]; exact Tryz.typeInfo4 w, rfl⟩⟩
instance : TZeroV PP 4 (.bool false) := ⟨fun w => by kernel_rfl⟩
instance : TShape PP 5 false 1 := ⟨fun w => by kernel_rfl, fun w => by kernel_rfl⟩
instance : TInfo PP 5 1 := ⟨fun w => ⟨Tryz.t5, by rw [PP_def]; exact Tryz.typeInfo5 w, rfl⟩⟩
instance : TZeroV PP 5 (.int .u8 0) := ⟨fun w => by kernel_rfl⟩
instance : TUnd PP 5 (.int (.u8)) := ⟨by kernel_rfl⟩
instance : TShape PP 9 false 1 := ⟨fun w => by kernel_rfl, fun w => by kernel_rfl⟩
instance : TInfo PP 9 16 := ⟨fun w => ⟨Tryz.t9, by rw [PP_def]; exact Tryz.typeInfo9 w, rfl⟩⟩
instance : TZeroV PP 9 (.string ByteArray.empty) := ⟨fun w => by kernel_rfl⟩
instance : TUnd PP 9 (.string) := ⟨by kernel_rfl⟩
instance : TUnd PP 22 (.slice 26) := ⟨by kernel_rfl⟩
instance : TShape PP 24 false 1 := ⟨fun w => by kernel_rfl, fun w => by kernel_rfl⟩
instance : TInfo PP 24 8 := ⟨fun w => ⟨Tryz.t24, by rw [PP_def]; exact Tryz.typeInfo24 w, rfl⟩⟩
instance : TZeroV PP 24 (.int .i64 0) := ⟨fun w => by kernel_rfl⟩
instance : TShape PP 26 true 3 := ⟨fun w => by kernel_rfl, fun w => by kernel_rfl⟩
instance : TZero PP 26 [.int .i64 0, .int .i64 0, .int .i64 0] := ⟨fun w => ⟨.agg #[.int .i64 0, .int .i64 0, .int .i64 0], by kernel_rfl, by kernel_rfl⟩⟩
instance : TZeroV PP 26 (.agg #[.int .i64 0, .int .i64 0, .int .i64 0]) := ⟨fun w => by kernel_rfl⟩
instance : TStruct PP 26 [.int .i64 0, .int .i64 0, .int .i64 0] [(0, 1), (1, 1), (2, 1)] := ⟨⟨_, by rw [PP_def]; exact Tryz.underlying26, fun w => by kernel_rfl⟩, fun w => ⟨.agg #[.int .i64 0, .int .i64 0, .int .i64 0], by kernel_rfl, by kernel_rfl⟩⟩
instance : TField PP 26 0 0 := ⟨fun b o w => by kernel_rfl⟩
instance : TField PP 26 1 1 := ⟨fun b o w => by kernel_rfl⟩
instance : TField PP 26 2 2 := ⟨fun b o w => by kernel_rfl⟩
instance : TShape PP 29 true 2 := ⟨fun w => by kernel_rfl, fun w => by kernel_rfl⟩
instance : TZero PP 29 [.int .i64 0, .int .i64 0] := ⟨fun w => ⟨.agg #[.int .i64 0, .int .i64 0], by kernel_rfl, by kernel_rfl⟩⟩
instance : TUnd PP 29 (.array 2 2) := ⟨by kernel_rfl⟩
instance : TShape PP 30 false 1 := ⟨fun w => by kernel_rfl, fun w => by kernel_rfl⟩
instance : TUnd PP 30 (.slice 123) := ⟨by kernel_rfl⟩
instance : TShape PP 31 false 1 := ⟨fun w => by kernel_rfl, fun w => by kernel_rfl⟩
instance : TUnd PP 31 (.slice 165) := ⟨by kernel_rfl⟩
instance : TShape PP 33 true 2 := ⟨fun w => by kernel_rfl, fun w => by kernel_rfl⟩
instance : TZero PP 33 [.slice none 0 0, .slice none 0 0] := ⟨fun w => ⟨.agg #[.slice none 0 0, .slice none 0 0], by kernel_rfl, by kernel_rfl⟩⟩
instance : TStruct PP 33 [.slice none 0 0, .slice none 0 0] [(0, 1), (1, 1)] := ⟨⟨_, by rw [PP_def]; exact Tryz.underlying33, fun w => by kernel_rfl⟩, fun w => ⟨.agg #[.slice none 0 0, .slice none 0 0], by kernel_rfl, by kernel_rfl⟩⟩
instance : TField PP 33 0 0 := ⟨fun b o w => by kernel_rfl⟩
instance : TField PP 33 1 1 := ⟨fun b o w => by kernel_rfl⟩
instance : TShape PP 34 false 1 := ⟨fun w => by kernel_rfl, fun w => by kernel_rfl⟩
instance : TUnd PP 34 (.slice 61) := ⟨by kernel_rfl⟩
instance : TShape PP 35 false 1 := ⟨fun w => by kernel_rfl, fun w => by kernel_rfl⟩
instance : TUnd PP 35 (.slice 222) := ⟨by kernel_rfl⟩
instance : TShape PP 36 false 1 := ⟨fun w => by kernel_rfl, fun w => by kernel_rfl⟩
instance : TUnd PP 36 (.map 3 225) := ⟨by kernel_rfl⟩
instance : TShape PP 38 true 3 := ⟨fun w => by kernel_rfl, fun w => by kernel_rfl⟩
instance : TZero PP 38 [.slice none 0 0, .slice none 0 0, .map none] := ⟨fun w => ⟨.agg #[.slice none 0 0, .slice none 0 0, .map none], by kernel_rfl, by kernel_rfl⟩⟩
instance : TStruct PP 38 [.slice none 0 0, .slice none 0 0, .map none] [(0, 1), (1, 1), (2, 1)] := ⟨⟨_, by rw [PP_def]; exact Tryz.underlying38, fun w => by kernel_rfl⟩, fun w => ⟨.agg #[.slice none 0 0, .slice none 0 0, .map none], by kernel_rfl, by kernel_rfl⟩⟩
instance : TField PP 38 0 0 := ⟨fun b o w => by kernel_rfl⟩
instance : TField PP 38 1 1 := ⟨fun b o w => by kernel_rfl⟩
instance : TField PP 38 2 2 := ⟨fun b o w => by kernel_rfl⟩
instance : TShape PP 39 false 1 := ⟨fun w => by kernel_rfl, fun w => by kernel_rfl⟩
instance : TUnd PP 39 (.slice 3) := ⟨by kernel_rfl⟩
instance : TShape PP 41 true 7 := ⟨fun w => by kernel_rfl, fun w => by kernel_rfl⟩
instance : TZero PP 41 [.slice none 0 0, .slice none 0 0, .slice none 0 0, .slice none 0 0, .map none, .slice none 0 0, .int .i64 0] := ⟨fun w => ⟨.agg #[.slice none 0 0, .slice none 0 0, .slice none 0 0, .slice none 0 0, .map none, .slice none 0 0, .int .i64 0], by kernel_rfl, by kernel_rfl⟩⟩
instance : TStruct PP 41 [.slice none 0 0, .slice none 0 0, .slice none 0 0, .slice none 0 0, .map none, .slice none 0 0, .int .i64 0] [(0, 2), (2, 3), (5, 1), (6, 1)] := ⟨⟨_, by rw [PP_def]; exact Tryz.underlying41, fun w => by kernel_rfl⟩, fun w => ⟨.agg #[.slice none 0 0, .slice none 0 0, .slice none 0 0, .slice none 0 0, .map none, .slice none 0 0, .int .i64 0], by kernel_rfl, by kernel_rfl⟩⟩
instance : TField PP 41 0 0 := ⟨fun b o w => by kernel_rfl⟩
instance : TField PP 41 1 2 := ⟨fun b o w => by kernel_rfl⟩
instance : TField PP 41 2 5 := ⟨fun b o w => by kernel_rfl⟩
instance : TShape PP 42 false 1 := ⟨fun w => by kernel_rfl, fun w => by kernel_rfl⟩
instance : TUnd PP 42 (.slice 91) := ⟨by kernel_rfl⟩
instance : TShape PP 43 false 1 := ⟨fun w => by kernel_rfl, fun w => by kernel_rfl⟩
instance : TUnd PP 43 (.slice 4) := ⟨by kernel_rfl⟩
instance : TShape PP 45 true 9 := ⟨fun w => by kernel_rfl, fun w => by kernel_rfl⟩
instance : TZero PP 45 [.slice none 0 0, .slice none 0 0, .slice none 0 0, .slice none 0 0, .map none, .slice none 0 0, .int .i64 0, .slice none 0 0, .slice none 0 0] := ⟨fun w => ⟨.agg #[.slice none 0 0, .slice none 0 0, .slice none 0 0, .slice none 0 0, .map none, .slice none 0 0, .int .i64 0, .slice none 0 0, .slice none 0 0], by kernel_rfl, by kernel_rfl⟩⟩
instance : TStruct PP 45 [.slice none 0 0, .slice none 0 0, .slice none 0 0, .slice none 0 0, .map none, .slice none 0 0, .int .i64 0, .slice none 0 0, .slice none 0 0] [(0, 7), (7, 1), (8, 1)] := ⟨⟨_, by rw [PP_def]; exact Tryz.underlying45, fun w => by kernel_rfl⟩, fun w => ⟨.agg #[.slice none 0 0, .slice none 0 0, .slice none 0 0, .slice none 0 0, .map none, .slice none 0 0, .int .i64 0, .slice none 0 0, .slice none 0 0], by kernel_rfl, by kernel_rfl⟩⟩
instance : TField PP 45 0 0 := ⟨fun b o w => by kernel_rfl⟩
instance : TField PP 45 1 7 := ⟨fun b o w => by kernel_rfl⟩
instance : TField PP 45 2 8 := ⟨fun b o w => by kernel_rfl⟩
instance : TShape PP 48 false 1 := ⟨fun w => by kernel_rfl, fun w => by kernel_rfl⟩
instance : TUnd PP 48 (.slice 9) := ⟨by kernel_rfl⟩
instance : TShape PP 51 false 1 := ⟨fun w => by kernel_rfl, fun w => by kernel_rfl⟩
instance : TUnd PP 51 (.map 9 4) := ⟨by kernel_rfl⟩
instance : TShape PP 59 false 1 := ⟨fun w => by kernel_rfl, fun w => by kernel_rfl⟩
instance : TUnd PP 59 (.int (.u32)) := ⟨by kernel_rfl⟩
instance : TShape PP 61 true 3 := ⟨fun w => by kernel_rfl, fun w => by kernel_rfl⟩
instance : TInfo PP 61 16 := ⟨fun w => ⟨Tryz.t61, by rw [PP_def]; exact Tryz.typeInfo61 w, rfl⟩⟩
instance : TZero PP 61 [.int .i64 0, .int .u32 0, .int .u32 0] := ⟨fun w => ⟨.agg #[.int .i64 0, .int .u32 0, .int .u32 0], by kernel_rfl, by kernel_rfl⟩⟩
instance : TZeroV PP 61 (.agg #[.int .i64 0, .int .u32 0, .int .u32 0]) := ⟨fun w => by kernel_rfl⟩
instance : TStruct PP 61 [.int .i64 0, .int .u32 0, .int .u32 0] [(0, 1), (1, 1), (2, 1)] := ⟨⟨_, by rw [PP_def]; exact Tryz.underlying61, fun w => by kernel_rfl⟩, fun w => ⟨.agg #[.int .i64 0, .int .u32 0, .int .u32 0], by kernel_rfl, by kernel_rfl⟩⟩
instance : TField PP 61 0 0 := ⟨fun b o w => by kernel_rfl⟩
instance : TField PP 61 1 1 := ⟨fun b o w => by kernel_rfl⟩
instance : TField PP 61 2 2 := ⟨fun b o w => by kernel_rfl⟩
instance : TUnd PP 62 (.slice 64) := ⟨by kernel_rfl⟩
instance : TShape PP 64 false 1 := ⟨fun w => by kernel_rfl, fun w => by kernel_rfl⟩
instance : TInfo PP 64 16 := ⟨fun w => ⟨Tryz.t64, by rw [PP_def]; exact Tryz.typeInfo64 w, rfl⟩⟩
instance : TZeroV PP 64 (.nilIface) := ⟨fun w => by kernel_rfl⟩
instance : TShape PP 74 false 1 := ⟨fun w => by kernel_rfl, fun w => by kernel_rfl⟩
instance : TInfo PP 74 8 := ⟨fun w => ⟨Tryz.t74, by rw [PP_def]; exact Tryz.typeInfo74 w, rfl⟩⟩
instance : TZeroV PP 74 (.map none) := ⟨fun w => by kernel_rfl⟩
instance : TUnd PP 74 (.map 106 4) := ⟨by kernel_rfl⟩
instance : TShape PP 83 true 8 := ⟨fun w => by kernel_rfl, fun w => by kernel_rfl⟩
instance : TStruct PP 83 [.int .i64 0, .int .i64 0, .int .i64 0, .bool false, .bool false, .bool false, .int .i64 0, .int .i64 0] [(0, 3), (3, 1), (4, 1), (5, 1), (6, 1), (7, 1)] := ⟨⟨_, by rw [PP_def]; exact Tryz.underlying83, fun w => by kernel_rfl⟩, fun w => ⟨.agg #[.int .i64 0, .int .i64 0, .int .i64 0, .bool false, .bool false, .bool false, .int .i64 0, .int .i64 0], by kernel_rfl, by kernel_rfl⟩⟩
instance : TField PP 83 0 0 := ⟨fun b o w => by kernel_rfl⟩
instance : TField PP 83 1 3 := ⟨fun b o w => by kernel_rfl⟩
instance : TField PP 83 2 4 := ⟨fun b o w => by kernel_rfl⟩
instance : TField PP 83 3 5 := ⟨fun b o w => by kernel_rfl⟩
instance : TField PP 83 4 6 := ⟨fun b o w => by kernel_rfl⟩
instance : TField PP 83 5 7 := ⟨fun b o w => by kernel_rfl⟩
instance : TShape PP 86 false 1 := ⟨fun w => by kernel_rfl, fun w => by kernel_rfl⟩
instance : TShape PP 88 true 8 := ⟨fun w => by kernel_rfl, fun w => by kernel_rfl⟩
instance : TZero PP 88 [.int .i64 0, .int .i64 0, .int .i64 0, .int .u32 0, .int .u32 0, .int .i64 0, .int .u32 0, .int .u32 0] := ⟨fun w => ⟨.agg #[.int .i64 0, .int .i64 0, .int .i64 0, .int .u32 0, .int .u32 0, .int .i64 0, .int .u32 0, .int .u32 0], by kernel_rfl, by kernel_rfl⟩⟩
instance : TZeroV PP 88 (.agg #[.int .i64 0, .int .i64 0, .int .i64 0, .int .u32 0, .int .u32 0, .int .i64 0, .int .u32 0, .int .u32 0]) := ⟨fun w => by kernel_rfl⟩
instance : TStruct PP 88 [.int .i64 0, .int .i64 0, .int .i64 0, .int .u32 0, .int .u32 0, .int .i64 0, .int .u32 0, .int .u32 0] [(0, 1), (1, 1), (2, 3), (5, 3)] := ⟨⟨_, by rw [PP_def]; exact Tryz.underlying88, fun w => by kernel_rfl⟩, fun w => ⟨.agg #[.int .i64 0, .int .i64 0, .int .i64 0, .int .u32 0, .int .u32 0, .int .i64 0, .int .u32 0, .int .u32 0], by kernel_rfl, by kernel_rfl⟩⟩
instance : TField PP 88 0 0 := ⟨fun b o w => by kernel_rfl⟩
instance : TField PP 88 1 1 := ⟨fun b o w => by kernel_rfl⟩
instance : TField PP 88 2 2 := ⟨fun b o w => by kernel_rfl⟩
instance : TField PP 88 3 5 := ⟨fun b o w => by kernel_rfl⟩
instance : TShape PP 89 false 1 := ⟨fun w => by kernel_rfl, fun w => by kernel_rfl⟩
instance : TUnd PP 89 (.slice 129) := ⟨by kernel_rfl⟩
instance : TShape PP 91 true 11 := ⟨fun w => by kernel_rfl, fun w => by kernel_rfl⟩
instance : TInfo PP 91 96 := ⟨fun w => ⟨Tryz.t91, by rw [PP_def]; exact Tryz.typeInfo91 w, rfl⟩⟩
instance : TZero PP 91 [.nilIface, .nilFunc, .int .i64 0, .int .i64 0, .int .i64 0, .int .u32 0, .int .u32 0, .int .i64 0, .int .u32 0, .int .u32 0, .slice none 0 0] := ⟨fun w => ⟨.agg #[.nilIface, .nilFunc, .int .i64 0, .int .i64 0, .int .i64 0, .int .u32 0, .int .u32 0, .int .i64 0, .int .u32 0, .int .u32 0, .slice none 0 0], by kernel_rfl, by kernel_rfl⟩⟩
instance : TZeroV PP 91 (.agg #[.nilIface, .nilFunc, .int .i64 0, .int .i64 0, .int .i64 0, .int .u32 0, .int .u32 0, .int .i64 0, .int .u32 0, .int .u32 0, .slice none 0 0]) := ⟨fun w => by kernel_rfl⟩
instance : TStruct PP 91 [.nilIface, .nilFunc, .int .i64 0, .int .i64 0, .int .i64 0, .int .u32 0, .int .u32 0, .int .i64 0, .int .u32 0, .int .u32 0, .slice none 0 0] [(0, 1), (1, 1), (2, 8), (10, 1)] := ⟨⟨_, by rw [PP_def]; exact Tryz.underlying91, fun w => by kernel_rfl⟩, fun w => ⟨.agg #[.nilIface, .nilFunc, .int .i64 0, .int .i64 0, .int .i64 0, .int .u32 0, .int .u32 0, .int .i64 0, .int .u32 0, .int .u32 0, .slice none 0 0], by kernel_rfl, by kernel_rfl⟩⟩
instance : TField PP 91 0 0 := ⟨fun b o w => by kernel_rfl⟩
instance : TField PP 91 1 1 := ⟨fun b o w => by kernel_rfl⟩
instance : TField PP 91 2 2 := ⟨fun b o w => by kernel_rfl⟩
instance : TField PP 91 3 10 := ⟨fun b o w => by kernel_rfl⟩
instance : TShape PP 93 false 1 := ⟨fun w => by kernel_rfl, fun w => by kernel_rfl⟩
instance : TUnd PP 93 (.map 9 101) := ⟨by kernel_rfl⟩
instance : TStruct PP 95 [.int .i64 0, .map none, .map none] [(0, 1), (1, 1), (2, 1)] := ⟨⟨_, by rw [PP_def]; exact Tryz.underlying95, fun w => by kernel_rfl⟩, fun w => ⟨.agg #[.int .i64 0, .map none, .map none], by kernel_rfl, by kernel_rfl⟩⟩
instance : TField PP 95 0 0 := ⟨fun b o w => by kernel_rfl⟩
instance : TField PP 95 1 1 := ⟨fun b o w => by kernel_rfl⟩
instance : TField PP 95 2 2 := ⟨fun b o w => by kernel_rfl⟩
instance : TZeroV PP 101 (.slice none 0 0) := ⟨fun w => by kernel_rfl⟩
instance : TUnd PP 101 (.slice 74) := ⟨by kernel_rfl⟩
instance : TUnd PP 103 (.slice 106) := ⟨by kernel_rfl⟩
instance : TShape PP 106 true 2 := ⟨fun w => by kernel_rfl, fun w => by kernel_rfl⟩
instance : TInfo PP 106 16 := ⟨fun w => ⟨Tryz.t106, by rw [PP_def]; exact Tryz.typeInfo106 w, rfl⟩⟩
instance : TZero PP 106 [.int .i64 0, .int .i64 0] := ⟨fun w => ⟨.agg #[.int .i64 0, .int .i64 0], by kernel_rfl, by kernel_rfl⟩⟩
instance : TZeroV PP 106 (.agg #[.int .i64 0, .int .i64 0]) := ⟨fun w => by kernel_rfl⟩
instance : TStruct PP 106 [.int .i64 0, .int .i64 0] [(0, 1), (1, 1)] := ⟨⟨_, by rw [PP_def]; exact Tryz.underlying106, fun w => by kernel_rfl⟩, fun w => ⟨.agg #[.int .i64 0, .int .i64 0], by kernel_rfl, by kernel_rfl⟩⟩
instance : TField PP 106 0 0 := ⟨fun b o w => by kernel_rfl⟩
instance : TField PP 106 1 1 := ⟨fun b o w => by kernel_rfl⟩
instance : TShape PP 111 false 1 := ⟨fun w => by kernel_rfl, fun w => by kernel_rfl⟩
instance : TShape PP 112 true 4 := ⟨fun w => by kernel_rfl, fun w => by kernel_rfl⟩
instance : TZero PP 112 [.nilFunc, .nilFunc, .nilFunc, .nilFunc] := ⟨fun w => ⟨.agg #[.nilFunc, .nilFunc, .nilFunc, .nilFunc], by kernel_rfl, by kernel_rfl⟩⟩
instance : TUnd PP 112 (.array 4 111) := ⟨by kernel_rfl⟩
instance : TUnd PP 117 (.int (.u64)) := ⟨by kernel_rfl⟩
instance : TShape PP 121 false 1 := ⟨fun w => by kernel_rfl, fun w => by kernel_rfl⟩
instance : TUnd PP 121 (.slice 167) := ⟨by kernel_rfl⟩
instance : TShape PP 123 true 1 := ⟨fun w => by kernel_rfl, fun w => by kernel_rfl⟩
instance : TInfo PP 123 24 := ⟨fun w => ⟨Tryz.t123, by rw [PP_def]; exact Tryz.typeInfo123 w, rfl⟩⟩
instance : TZero PP 123 [.slice none 0 0] := ⟨fun w => ⟨.agg #[.slice none 0 0], by kernel_rfl, by kernel_rfl⟩⟩
instance : TZeroV PP 123 (.agg #[.slice none 0 0]) := ⟨fun w => by kernel_rfl⟩
instance : TStruct PP 123 [.slice none 0 0] [(0, 1)] := ⟨⟨_, by rw [PP_def]; exact Tryz.underlying123, fun w => by kernel_rfl⟩, fun w => ⟨.agg #[.slice none 0 0], by kernel_rfl, by kernel_rfl⟩⟩
instance : TField PP 123 0 0 := ⟨fun b o w => by kernel_rfl⟩
instance : TShape PP 129 true 4 := ⟨fun w => by kernel_rfl, fun w => by kernel_rfl⟩
instance : TInfo PP 129 24 := ⟨fun w => ⟨Tryz.t129, by rw [PP_def]; exact Tryz.typeInfo129 w, rfl⟩⟩
instance : TZero PP 129 [.int .i64 0, .int .u32 0, .int .u32 0, .bool false] := ⟨fun w => ⟨.agg #[.int .i64 0, .int .u32 0, .int .u32 0, .bool false], by kernel_rfl, by kernel_rfl⟩⟩
instance : TZeroV PP 129 (.agg #[.int .i64 0, .int .u32 0, .int .u32 0, .bool false]) := ⟨fun w => by kernel_rfl⟩
instance : TStruct PP 129 [.int .i64 0, .int .u32 0, .int .u32 0, .bool false] [(0, 3), (3, 1)] := ⟨⟨_, by rw [PP_def]; exact Tryz.underlying129, fun w => by kernel_rfl⟩, fun w => ⟨.agg #[.int .i64 0, .int .u32 0, .int .u32 0, .bool false], by kernel_rfl, by kernel_rfl⟩⟩
instance : TField PP 129 0 0 := ⟨fun b o w => by kernel_rfl⟩
instance : TField PP 129 1 3 := ⟨fun b o w => by kernel_rfl⟩
instance : TShape PP 133 false 1 := ⟨fun w => by kernel_rfl, fun w => by kernel_rfl⟩
instance : TUnd PP 133 (.slice 5) := ⟨by kernel_rfl⟩
instance : TZero PP 135 [.pointer none, .slice none 0 0] := ⟨fun w => ⟨.agg #[.pointer none, .slice none 0 0], by kernel_rfl, by kernel_rfl⟩⟩
instance : TField PP 135 1 1 := ⟨fun b o w => by kernel_rfl⟩
instance : TStruct PP 152 [.int .i64 0, .int .i64 0, .int .i64 0] [(0, 1), (1, 1), (2, 1)] := ⟨⟨_, by rw [PP_def]; exact Tryz.underlying152, fun w => by kernel_rfl⟩, fun w => ⟨.agg #[.int .i64 0, .int .i64 0, .int .i64 0], by kernel_rfl, by kernel_rfl⟩⟩
instance : TField PP 152 0 0 := ⟨fun b o w => by kernel_rfl⟩
instance : TField PP 152 1 1 := ⟨fun b o w => by kernel_rfl⟩
instance : TField PP 152 2 2 := ⟨fun b o w => by kernel_rfl⟩
instance : TUnd PP 158 (.int (.u64)) := ⟨by kernel_rfl⟩
instance : TShape PP 163 false 1 := ⟨fun w => by kernel_rfl, fun w => by kernel_rfl⟩
instance : TUnd PP 163 (.map 24 3) := ⟨by kernel_rfl⟩
instance : TShape PP 165 true 1 := ⟨fun w => by kernel_rfl, fun w => by kernel_rfl⟩
instance : TInfo PP 165 8 := ⟨fun w => ⟨Tryz.t165, by rw [PP_def]; exact Tryz.typeInfo165 w, rfl⟩⟩
instance : TZero PP 165 [.map none] := ⟨fun w => ⟨.agg #[.map none], by kernel_rfl, by kernel_rfl⟩⟩
instance : TZeroV PP 165 (.agg #[.map none]) := ⟨fun w => by kernel_rfl⟩
instance : TStruct PP 165 [.map none] [(0, 1)] := ⟨⟨_, by rw [PP_def]; exact Tryz.underlying165, fun w => by kernel_rfl⟩, fun w => ⟨.agg #[.map none], by kernel_rfl, by kernel_rfl⟩⟩
instance : TField PP 165 0 0 := ⟨fun b o w => by kernel_rfl⟩
instance : TShape PP 167 true 5 := ⟨fun w => by kernel_rfl, fun w => by kernel_rfl⟩
instance : TInfo PP 167 32 := ⟨fun w => ⟨Tryz.t167, by rw [PP_def]; exact Tryz.typeInfo167 w, rfl⟩⟩
instance : TZero PP 167 [.int .i64 0, .int .u32 0, .int .u32 0, .int .i64 0, .map none] := ⟨fun w => ⟨.agg #[.int .i64 0, .int .u32 0, .int .u32 0, .int .i64 0, .map none], by kernel_rfl, by kernel_rfl⟩⟩
instance : TZeroV PP 167 (.agg #[.int .i64 0, .int .u32 0, .int .u32 0, .int .i64 0, .map none]) := ⟨fun w => by kernel_rfl⟩
instance : TStruct PP 167 [.int .i64 0, .int .u32 0, .int .u32 0, .int .i64 0, .map none] [(0, 3), (3, 1), (4, 1)] := ⟨⟨_, by rw [PP_def]; exact Tryz.underlying167, fun w => by kernel_rfl⟩, fun w => ⟨.agg #[.int .i64 0, .int .u32 0, .int .u32 0, .int .i64 0, .map none], by kernel_rfl, by kernel_rfl⟩⟩
instance : TField PP 167 0 0 := ⟨fun b o w => by kernel_rfl⟩
instance : TPart PP 167 0 true 0 3 := part_lemma (ft := 61) (by rw [PP_def]; exact Tryz.underlying167) rfl rfl rfl
instance : TField PP 167 1 3 := ⟨fun b o w => by kernel_rfl⟩
instance : TField PP 167 2 4 := ⟨fun b o w => by kernel_rfl⟩
instance : TUnd PP 182 (.slice 2) := ⟨by kernel_rfl⟩
instance : TUnd PP 186 (.pointer 5) := ⟨by kernel_rfl⟩
instance : TUnd PP 197 (.slice 88) := ⟨by kernel_rfl⟩
instance : TShape PP 216 false 1 := ⟨fun w => by kernel_rfl, fun w => by kernel_rfl⟩
instance : TUnd PP 216 (.slice 24) := ⟨by kernel_rfl⟩
instance : TShape PP 220 false 1 := ⟨fun w => by kernel_rfl, fun w => by kernel_rfl⟩
instance : TUnd PP 220 (.slice 260) := ⟨by kernel_rfl⟩
instance : TShape PP 222 true 2 := ⟨fun w => by kernel_rfl, fun w => by kernel_rfl⟩
instance : TInfo PP 222 32 := ⟨fun w => ⟨Tryz.t222, by rw [PP_def]; exact Tryz.typeInfo222 w, rfl⟩⟩
instance : TZeroV PP 222 (.agg #[.slice none 0 0, .int .i64 0]) := ⟨fun w => by kernel_rfl⟩
instance : TField PP 222 0 0 := ⟨fun b o w => by kernel_rfl⟩
instance : TField PP 222 1 1 := ⟨fun b o w => by kernel_rfl⟩
instance : TZeroV PP 225 (.map none) := ⟨fun w => by kernel_rfl⟩
instance : TUnd PP 225 (.map 3 3) := ⟨by kernel_rfl⟩
instance : TShape PP 236 false 1 := ⟨fun w => by kernel_rfl, fun w => by kernel_rfl⟩
instance : TZero PP 236 [.int .u64 0] := ⟨fun w => ⟨.int .u64 0, by kernel_rfl, by kernel_rfl⟩⟩
instance : TUnd PP 236 (.int (.u64)) := ⟨by kernel_rfl⟩
instance : TShape PP 260 true 4 := ⟨fun w => by kernel_rfl, fun w => by kernel_rfl⟩
instance : TInfo PP 260 24 := ⟨fun w => ⟨Tryz.t260, by rw [PP_def]; exact Tryz.typeInfo260 w, rfl⟩⟩
instance : TZeroV PP 260 (.agg #[.int .i64 0, .int .i64 0, .int .u32 0, .int .u32 0]) := ⟨fun w => by kernel_rfl⟩
instance : TStruct PP 260 [.int .i64 0, .int .i64 0, .int .u32 0, .int .u32 0] [(0, 1), (1, 3)] := ⟨⟨_, by rw [PP_def]; exact Tryz.underlying260, fun w => by kernel_rfl⟩, fun w => ⟨.agg #[.int .i64 0, .int .i64 0, .int .u32 0, .int .u32 0], by kernel_rfl, by kernel_rfl⟩⟩
theorem en3 : Enters PP 3 := eN Tryz.call3
theorem fn3 : PP.funcs[3]? = some Tryz.f3 := fN Tryz.func3
theorem en4 : Enters PP 4 := eN Tryz.call4
theorem fn4 : PP.funcs[4]? = some Tryz.f4 := fN Tryz.func4
theorem en5 : Enters PP 5 := eN Tryz.call5
theorem fn5 : PP.funcs[5]? = some Tryz.f5 := fN Tryz.func5
theorem en6 : Enters PP 6 := eN Tryz.call6
theorem fn6 : PP.funcs[6]? = some Tryz.f6 := fN Tryz.func6
theorem en7 : Enters PP 7 := eN Tryz.call7
theorem fn7 : PP.funcs[7]? = some Tryz.f7 := fN Tryz.func7
theorem en8 : Enters PP 8 := eN Tryz.call8
theorem fn8 : PP.funcs[8]? = some Tryz.f8 := fN Tryz.func8
theorem en9 : Enters PP 9 := eN Tryz.call9
theorem fn9 : PP.funcs[9]? = some Tryz.f9 := fN Tryz.func9
theorem en10 : Enters PP 10 := eN Tryz.call10
theorem fn10 : PP.funcs[10]? = some Tryz.f10 := fN Tryz.func10
theorem en11 : Enters PP 11 := eN Tryz.call11
theorem fn11 : PP.funcs[11]? = some Tryz.f11 := fN Tryz.func11
theorem en12 : Enters PP 12 := eN Tryz.call12
theorem fn12 : PP.funcs[12]? = some Tryz.f12 := fN Tryz.func12
theorem en13 : Enters PP 13 := eN Tryz.call13
theorem fn13 : PP.funcs[13]? = some Tryz.f13 := fN Tryz.func13
theorem en14 : Enters PP 14 := eN Tryz.call14
theorem fn14 : PP.funcs[14]? = some Tryz.f14 := fN Tryz.func14
theorem en15 : Enters PP 15 := eN Tryz.call15
theorem fn15 : PP.funcs[15]? = some Tryz.f15 := fN Tryz.func15
theorem en16 : Enters PP 16 := eN Tryz.call16
theorem fn16 : PP.funcs[16]? = some Tryz.f16 := fN Tryz.func16
theorem en17 : Enters PP 17 := eN Tryz.call17
theorem fn17 : PP.funcs[17]? = some Tryz.f17 := fN Tryz.func17
theorem en18 : Enters PP 18 := eN Tryz.call18
theorem fn18 : PP.funcs[18]? = some Tryz.f18 := fN Tryz.func18
theorem en19 : Enters PP 19 := eN Tryz.call19
theorem fn19 : PP.funcs[19]? = some Tryz.f19 := fN Tryz.func19
theorem en20 : Enters PP 20 := eN Tryz.call20
theorem fn20 : PP.funcs[20]? = some Tryz.f20 := fN Tryz.func20
theorem en21 : Enters PP 21 := eN Tryz.call21
theorem fn21 : PP.funcs[21]? = some Tryz.f21 := fN Tryz.func21
theorem en22 : Enters PP 22 := eN Tryz.call22
theorem fn22 : PP.funcs[22]? = some Tryz.f22 := fN Tryz.func22
theorem en23 : Enters PP 23 := eN Tryz.call23
theorem fn23 : PP.funcs[23]? = some Tryz.f23 := fN Tryz.func23
theorem en24 : Enters PP 24 := eN Tryz.call24
theorem fn24 : PP.funcs[24]? = some Tryz.f24 := fN Tryz.func24
theorem en25 : Enters PP 25 := eN Tryz.call25
theorem fn25 : PP.funcs[25]? = some Tryz.f25 := fN Tryz.func25
theorem en26 : Enters PP 26 := eN Tryz.call26
theorem fn26 : PP.funcs[26]? = some Tryz.f26 := fN Tryz.func26
theorem en27 : Enters PP 27 := eN Tryz.call27
theorem fn27 : PP.funcs[27]? = some Tryz.f27 := fN Tryz.func27
theorem en28 : Enters PP 28 := eN Tryz.call28
theorem fn28 : PP.funcs[28]? = some Tryz.f28 := fN Tryz.func28
theorem en29 : Enters PP 29 := eN Tryz.call29
theorem fn29 : PP.funcs[29]? = some Tryz.f29 := fN Tryz.func29
theorem en30 : Enters PP 30 := eN Tryz.call30
theorem fn30 : PP.funcs[30]? = some Tryz.f30 := fN Tryz.func30
theorem en31 : Enters PP 31 := eN Tryz.call31
theorem fn31 : PP.funcs[31]? = some Tryz.f31 := fN Tryz.func31
theorem en32 : Enters PP 32 := eN Tryz.call32
theorem fn32 : PP.funcs[32]? = some Tryz.f32 := fN Tryz.func32
theorem en33 : Enters PP 33 := eN Tryz.call33
theorem fn33 : PP.funcs[33]? = some Tryz.f33 := fN Tryz.func33
theorem en34 : Enters PP 34 := eN Tryz.call34
theorem fn34 : PP.funcs[34]? = some Tryz.f34 := fN Tryz.func34
theorem en35 : Enters PP 35 := eN Tryz.call35
theorem fn35 : PP.funcs[35]? = some Tryz.f35 := fN Tryz.func35
theorem en36 : Enters PP 36 := eN Tryz.call36
theorem fn36 : PP.funcs[36]? = some Tryz.f36 := fN Tryz.func36
theorem en37 : Enters PP 37 := eN Tryz.call37
theorem fn37 : PP.funcs[37]? = some Tryz.f37 := fN Tryz.func37
theorem en38 : Enters PP 38 := eN Tryz.call38
theorem en40 : Enters PP 40 := eN Tryz.call40
theorem fn40 : PP.funcs[40]? = some Tryz.f40 := fN Tryz.func40
theorem en42 : Enters PP 42 := eN Tryz.call42
theorem fn42 : PP.funcs[42]? = some Tryz.f42 := fN Tryz.func42
theorem en43 : Enters PP 43 := eN Tryz.call43
theorem fn43 : PP.funcs[43]? = some Tryz.f43 := fN Tryz.func43
theorem en44 : Enters PP 44 := eN Tryz.call44
theorem fn44 : PP.funcs[44]? = some Tryz.f44 := fN Tryz.func44
theorem en45 : Enters PP 45 := eN Tryz.call45
theorem fn45 : PP.funcs[45]? = some Tryz.f45 := fN Tryz.func45
theorem en46 : Enters PP 46 := eN Tryz.call46
theorem fn46 : PP.funcs[46]? = some Tryz.f46 := fN Tryz.func46
theorem en47 : Enters PP 47 := eN Tryz.call47
theorem fn47 : PP.funcs[47]? = some Tryz.f47 := fN Tryz.func47
theorem en48 : Enters PP 48 := eN Tryz.call48
theorem fn48 : PP.funcs[48]? = some Tryz.f48 := fN Tryz.func48
theorem en49 : Enters PP 49 := eN Tryz.call49
theorem fn49 : PP.funcs[49]? = some Tryz.f49 := fN Tryz.func49
theorem en50 : Enters PP 50 := eN Tryz.call50
theorem fn50 : PP.funcs[50]? = some Tryz.f50 := fN Tryz.func50
theorem en51 : Enters PP 51 := eN Tryz.call51
theorem fn51 : PP.funcs[51]? = some Tryz.f51 := fN Tryz.func51
theorem en52 : Enters PP 52 := eN Tryz.call52
theorem fn52 : PP.funcs[52]? = some Tryz.f52 := fN Tryz.func52
theorem en53 : Enters PP 53 := eN Tryz.call53
theorem fn53 : PP.funcs[53]? = some Tryz.f53 := fN Tryz.func53
theorem en54 : Enters PP 54 := eN Tryz.call54
theorem fn54 : PP.funcs[54]? = some Tryz.f54 := fN Tryz.func54
theorem en55 : Enters PP 55 := eN Tryz.call55
theorem fn55 : PP.funcs[55]? = some Tryz.f55 := fN Tryz.func55
theorem en56 : Enters PP 56 := eN Tryz.call56
theorem fn56 : PP.funcs[56]? = some Tryz.f56 := fN Tryz.func56
theorem en57 : Enters PP 57 := eN Tryz.call57
theorem fn57 : PP.funcs[57]? = some Tryz.f57 := fN Tryz.func57
theorem en58 : Enters PP 58 := eN Tryz.call58
theorem fn58 : PP.funcs[58]? = some Tryz.f58 := fN Tryz.func58
theorem en59 : Enters PP 59 := eN Tryz.call59
theorem fn59 : PP.funcs[59]? = some Tryz.f59 := fN Tryz.func59
theorem en60 : Enters PP 60 := eN Tryz.call60
theorem fn60 : PP.funcs[60]? = some Tryz.f60 := fN Tryz.func60
theorem en61 : Enters PP 61 := eN Tryz.call61
theorem fn61 : PP.funcs[61]? = some Tryz.f61 := fN Tryz.func61
theorem en62 : Enters PP 62 := eN Tryz.call62
theorem en63 : Enters PP 63 := eN Tryz.call63
theorem fn63 : PP.funcs[63]? = some Tryz.f63 := fN Tryz.func63
theorem en64 : Enters PP 64 := eN Tryz.call64
theorem fn64 : PP.funcs[64]? = some Tryz.f64 := fN Tryz.func64
theorem en65 : Enters PP 65 := eN Tryz.call65
theorem fn65 : PP.funcs[65]? = some Tryz.f65 := fN Tryz.func65
theorem en66 : Enters PP 66 := eN Tryz.call66
theorem fn66 : PP.funcs[66]? = some Tryz.f66 := fN Tryz.func66
theorem en68 : Enters PP 68 := eN Tryz.call68
theorem fn68 : PP.funcs[68]? = some Tryz.f68 := fN Tryz.func68
theorem en69 : Enters PP 69 := eN Tryz.call69
theorem fn69 : PP.funcs[69]? = some Tryz.f69 := fN Tryz.func69
theorem en70 : Enters PP 70 := eN Tryz.call70
theorem fn70 : PP.funcs[70]? = some Tryz.f70 := fN Tryz.func70
theorem en71 : Enters PP 71 := eN Tryz.call71
theorem fn71 : PP.funcs[71]? = some Tryz.f71 := fN Tryz.func71
theorem en72 : Enters PP 72 := eN Tryz.call72
theorem fn72 : PP.funcs[72]? = some Tryz.f72 := fN Tryz.func72
theorem en75 : Enters PP 75 := eN Tryz.call75
theorem fn75 : PP.funcs[75]? = some Tryz.f75 := fN Tryz.func75
theorem en77 : Enters PP 77 := eN Tryz.call77
theorem fn77 : PP.funcs[77]? = some Tryz.f77 := fN Tryz.func77
theorem en81 : Enters PP 81 := eN Tryz.call81
theorem fn81 : PP.funcs[81]? = some Tryz.f81 := fN Tryz.func81
theorem en82 : Enters PP 82 := eN Tryz.call82
theorem fn82 : PP.funcs[82]? = some Tryz.f82 := fN Tryz.func82
theorem en83 : Enters PP 83 := eN Tryz.call83
theorem fn83 : PP.funcs[83]? = some Tryz.f83 := fN Tryz.func83
theorem en84 : Enters PP 84 := eN Tryz.call84
theorem fn84 : PP.funcs[84]? = some Tryz.f84 := fN Tryz.func84
theorem en85 : Enters PP 85 := eN Tryz.call85
theorem fn85 : PP.funcs[85]? = some Tryz.f85 := fN Tryz.func85
theorem en86 : Enters PP 86 := eN Tryz.call86
theorem fn86 : PP.funcs[86]? = some Tryz.f86 := fN Tryz.func86
theorem en87 : Enters PP 87 := eN Tryz.call87
theorem fn87 : PP.funcs[87]? = some Tryz.f87 := fN Tryz.func87
theorem en88 : Enters PP 88 := eN Tryz.call88
theorem fn88 : PP.funcs[88]? = some Tryz.f88 := fN Tryz.func88
theorem en89 : Enters PP 89 := eN Tryz.call89
theorem fn89 : PP.funcs[89]? = some Tryz.f89 := fN Tryz.func89
theorem en90 : Enters PP 90 := eN Tryz.call90
theorem en91 : Enters PP 91 := eN Tryz.call91
theorem fn91 : PP.funcs[91]? = some Tryz.f91 := fN Tryz.func91
theorem en92 : Enters PP 92 := eN Tryz.call92
theorem fn92 : PP.funcs[92]? = some Tryz.f92 := fN Tryz.func92
theorem en93 : Enters PP 93 := eN Tryz.call93
theorem fn93 : PP.funcs[93]? = some Tryz.f93 := fN Tryz.func93
theorem en94 : Enters PP 94 := eN Tryz.call94
theorem fn94 : PP.funcs[94]? = some Tryz.f94 := fN Tryz.func94
theorem en95 : Enters PP 95 := eN Tryz.call95
theorem fn95 : PP.funcs[95]? = some Tryz.f95 := fN Tryz.func95
theorem en96 : Enters PP 96 := eN Tryz.call96
theorem fn96 : PP.funcs[96]? = some Tryz.f96 := fN Tryz.func96
theorem en97 : Enters PP 97 := eN Tryz.call97
theorem fn97 : PP.funcs[97]? = some Tryz.f97 := fN Tryz.func97
theorem en98 : Enters PP 98 := eN Tryz.call98
theorem fn98 : PP.funcs[98]? = some Tryz.f98 := fN Tryz.func98
theorem en100 : Enters PP 100 := eN Tryz.call100
theorem fn100 : PP.funcs[100]? = some Tryz.f100 := fN Tryz.func100
theorem en102 : Enters PP 102 := eN Tryz.call102
theorem fn102 : PP.funcs[102]? = some Tryz.f102 := fN Tryz.func102
theorem en103 : Enters PP 103 := eN Tryz.call103
theorem fn103 : PP.funcs[103]? = some Tryz.f103 := fN Tryz.func103
theorem en105 : Enters PP 105 := eN Tryz.call105
theorem fn105 : PP.funcs[105]? = some Tryz.f105 := fN Tryz.func105
theorem en106 : Enters PP 106 := eN Tryz.call106
theorem fn106 : PP.funcs[106]? = some Tryz.f106 := fN Tryz.func106
theorem en107 : Enters PP 107 := eN Tryz.call107
theorem fn107 : PP.funcs[107]? = some Tryz.f107 := fN Tryz.func107
theorem en114 : Enters PP 114 := eN Tryz.call114
theorem fn114 : PP.funcs[114]? = some Tryz.f114 := fN Tryz.func114
theorem en115 : Enters PP 115 := eN Tryz.call115
theorem fn115 : PP.funcs[115]? = some Tryz.f115 := fN Tryz.func115
theorem en116 : Enters PP 116 := eN Tryz.call116
theorem fn116 : PP.funcs[116]? = some Tryz.f116 := fN Tryz.func116
theorem en117 : Enters PP 117 := eN Tryz.call117
theorem fn117 : PP.funcs[117]? = some Tryz.f117 := fN Tryz.func117
theorem en118 : Enters PP 118 := eN Tryz.call118
theorem fn118 : PP.funcs[118]? = some Tryz.f118 := fN Tryz.func118
theorem en119 : Enters PP 119 := eN Tryz.call119
theorem fn119 : PP.funcs[119]? = some Tryz.f119 := fN Tryz.func119
theorem en120 : Enters PP 120 := eN Tryz.call120
theorem fn120 : PP.funcs[120]? = some Tryz.f120 := fN Tryz.func120
theorem en121 : Enters PP 121 := eN Tryz.call121
theorem fn121 : PP.funcs[121]? = some Tryz.f121 := fN Tryz.func121
theorem en122 : Enters PP 122 := eN Tryz.call122
theorem fn122 : PP.funcs[122]? = some Tryz.f122 := fN Tryz.func122
theorem en124 : Enters PP 124 := eN Tryz.call124
theorem fn124 : PP.funcs[124]? = some Tryz.f124 := fN Tryz.func124
theorem en125 : Enters PP 125 := eN Tryz.call125
theorem fn125 : PP.funcs[125]? = some Tryz.f125 := fN Tryz.func125
theorem en126 : Enters PP 126 := eN Tryz.call126
theorem fn126 : PP.funcs[126]? = some Tryz.f126 := fN Tryz.func126
theorem en127 : Enters PP 127 := eN Tryz.call127
theorem fn127 : PP.funcs[127]? = some Tryz.f127 := fN Tryz.func127
theorem en129 : Enters PP 129 := eN Tryz.call129
theorem fn129 : PP.funcs[129]? = some Tryz.f129 := fN Tryz.func129
theorem en130 : Enters PP 130 := eN Tryz.call130
theorem fn130 : PP.funcs[130]? = some Tryz.f130 := fN Tryz.func130
theorem en131 : Enters PP 131 := eN Tryz.call131
theorem fn131 : PP.funcs[131]? = some Tryz.f131 := fN Tryz.func131
theorem en132 : Enters PP 132 := eN Tryz.call132
theorem fn132 : PP.funcs[132]? = some Tryz.f132 := fN Tryz.func132
theorem en135 : Enters PP 135 := eN Tryz.call135
theorem fn135 : PP.funcs[135]? = some Tryz.f135 := fN Tryz.func135
theorem en136 : Enters PP 136 := eN Tryz.call136
theorem fn136 : PP.funcs[136]? = some Tryz.f136 := fN Tryz.func136
theorem en137 : Enters PP 137 := eN Tryz.call137
theorem fn137 : PP.funcs[137]? = some Tryz.f137 := fN Tryz.func137
theorem en138 : Enters PP 138 := eN Tryz.call138
theorem fn138 : PP.funcs[138]? = some Tryz.f138 := fN Tryz.func138
theorem en139 : Enters PP 139 := eN Tryz.call139
theorem fn139 : PP.funcs[139]? = some Tryz.f139 := fN Tryz.func139
theorem en144 : Enters PP 144 := eN Tryz.call144
theorem fn144 : PP.funcs[144]? = some Tryz.f144 := fN Tryz.func144
theorem en145 : Enters PP 145 := eN Tryz.call145
theorem fn145 : PP.funcs[145]? = some Tryz.f145 := fN Tryz.func145
theorem en146 : Enters PP 146 := eN Tryz.call146
theorem fn146 : PP.funcs[146]? = some Tryz.f146 := fN Tryz.func146
theorem en147 : Enters PP 147 := eN Tryz.call147
theorem fn147 : PP.funcs[147]? = some Tryz.f147 := fN Tryz.func147
theorem en148 : Enters PP 148 := eN Tryz.call148
theorem fn148 : PP.funcs[148]? = some Tryz.f148 := fN Tryz.func148
theorem en149 : Enters PP 149 := eN Tryz.call149
theorem fn149 : PP.funcs[149]? = some Tryz.f149 := fN Tryz.func149
theorem en150 : Enters PP 150 := eN Tryz.call150
theorem fn150 : PP.funcs[150]? = some Tryz.f150 := fN Tryz.func150
theorem en151 : Enters PP 151 := eN Tryz.call151
theorem fn151 : PP.funcs[151]? = some Tryz.f151 := fN Tryz.func151
theorem en152 : Enters PP 152 := eN Tryz.call152
theorem fn152 : PP.funcs[152]? = some Tryz.f152 := fN Tryz.func152
theorem en157 : Enters PP 157 := eN Tryz.call157
theorem fn157 : PP.funcs[157]? = some Tryz.f157 := fN Tryz.func157
theorem en158 : Enters PP 158 := eN Tryz.call158
theorem fn158 : PP.funcs[158]? = some Tryz.f158 := fN Tryz.func158
theorem en160 : Enters PP 160 := eN Tryz.call160
theorem fn160 : PP.funcs[160]? = some Tryz.f160 := fN Tryz.func160
theorem en161 : Enters PP 161 := eN Tryz.call161
theorem fn161 : PP.funcs[161]? = some Tryz.f161 := fN Tryz.func161
theorem en164 : Enters PP 164 := eN Tryz.call164
theorem fn164 : PP.funcs[164]? = some Tryz.f164 := fN Tryz.func164
theorem en165 : Enters PP 165 := eN Tryz.call165
theorem fn165 : PP.funcs[165]? = some Tryz.f165 := fN Tryz.func165
theorem en166 : Enters PP 166 := eN Tryz.call166
theorem fn166 : PP.funcs[166]? = some Tryz.f166 := fN Tryz.func166
theorem en167 : Enters PP 167 := eN Tryz.call167
theorem fn167 : PP.funcs[167]? = some Tryz.f167 := fN Tryz.func167
theorem en168 : Enters PP 168 := eN Tryz.call168
theorem fn168 : PP.funcs[168]? = some Tryz.f168 := fN Tryz.func168
theorem en170 : Enters PP 170 := eN Tryz.call170
theorem fn170 : PP.funcs[170]? = some Tryz.f170 := fN Tryz.func170
theorem en171 : Enters PP 171 := eN Tryz.call171
theorem fn171 : PP.funcs[171]? = some Tryz.f171 := fN Tryz.func171
theorem en173 : Enters PP 173 := eN Tryz.call173
theorem fn173 : PP.funcs[173]? = some Tryz.f173 := fN Tryz.func173
theorem en175 : Enters PP 175 := eN Tryz.call175
theorem fn175 : PP.funcs[175]? = some Tryz.f175 := fN Tryz.func175
theorem en176 : Enters PP 176 := eN Tryz.call176
theorem fn176 : PP.funcs[176]? = some Tryz.f176 := fN Tryz.func176
theorem en177 : Enters PP 177 := eN Tryz.call177
theorem fn177 : PP.funcs[177]? = some Tryz.f177 := fN Tryz.func177
theorem en178 : Enters PP 178 := eN Tryz.call178
theorem fn178 : PP.funcs[178]? = some Tryz.f178 := fN Tryz.func178
theorem en179 : Enters PP 179 := eN Tryz.call179
theorem fn179 : PP.funcs[179]? = some Tryz.f179 := fN Tryz.func179
theorem en180 : Enters PP 180 := eN Tryz.call180
theorem fn180 : PP.funcs[180]? = some Tryz.f180 := fN Tryz.func180
theorem en181 : Enters PP 181 := eN Tryz.call181
theorem fn181 : PP.funcs[181]? = some Tryz.f181 := fN Tryz.func181
theorem en183 : Enters PP 183 := eN Tryz.call183
theorem fn183 : PP.funcs[183]? = some Tryz.f183 := fN Tryz.func183
theorem en189 : Enters PP 189 := eN Tryz.call189
theorem fn189 : PP.funcs[189]? = some Tryz.f189 := fN Tryz.func189
theorem en192 : Enters PP 192 := eN Tryz.call192
theorem fn192 : PP.funcs[192]? = some Tryz.f192 := fN Tryz.func192
theorem en193 : Enters PP 193 := eN Tryz.call193
theorem fn193 : PP.funcs[193]? = some Tryz.f193 := fN Tryz.func193
theorem en194 : Enters PP 194 := eN Tryz.call194
theorem fn194 : PP.funcs[194]? = some Tryz.f194 := fN Tryz.func194
theorem en195 : Enters PP 195 := eN Tryz.call195
theorem fn195 : PP.funcs[195]? = some Tryz.f195 := fN Tryz.func195
theorem en200 : Enters PP 200 := eN Tryz.call200
theorem fn200 : PP.funcs[200]? = some Tryz.f200 := fN Tryz.func200
theorem en201 : Enters PP 201 := eN Tryz.call201
theorem fn201 : PP.funcs[201]? = some Tryz.f201 := fN Tryz.func201
theorem en202 : Enters PP 202 := eN Tryz.call202
theorem fn202 : PP.funcs[202]? = some Tryz.f202 := fN Tryz.func202
theorem en203 : Enters PP 203 := eN Tryz.call203
theorem fn203 : PP.funcs[203]? = some Tryz.f203 := fN Tryz.func203
theorem en222 : Enters PP 222 := eN Tryz.call222
theorem fn222 : PP.funcs[222]? = some Tryz.f222 := fN Tryz.func222
section
variable {w0 : World} {n : Nat} {sh : Shared} {Q : Exit → Env → List Deferred → List Asn → Prop} {k k' : List Item} {ρ : Env} {df : List Deferred} {Γ : List Asn} {ops : Array Oper}
variable {L l : List (Fl × Nat × Oper)} {b : Fl} {i d : Nat} {ty : TypeId} {pos : String} {aft : Array Edge} {op : Op} {v : Value}
end
end Go.Proofs.YtikackodhiollaaGreatDoor
namespace Go.Proofs.YtikackodhiollaaGreatDoor
open Go.Shelf Go.Proofs
open Go.Shelf
def lays156_ren : Go.Shelf.Ren := ⟨fun | 156 => 62 | 165 => 99 | 166 => 94 | 169 => 58 | 240 => 90 | 241 => 133 | 276 => 128 | 277 => 153 | n => n, fun | 31 => 48 | 9 => 9 | 3 => 3 | 4 => 4 | 0 => 0 | 20 => 20 | 72 => 135 | 76 => 183 | 70 => 132 | 37 => 133 | 75 => 138 | 127 => 186 | 164 => 218 | 5 => 5 | 80 => 144 | n => n, fun | n => n⟩
theorem lays156 : Go.Proofs.Lays.n156 Tryz.prog lays156_ren := {
 mixed := by kernel_rfl
 f156 := Tryz.func62.trans (congrArg some (by kernel_rfl))
 f165 := Tryz.func99.trans (congrArg some (by kernel_rfl))
 f166 := Tryz.func94.trans (congrArg some (by kernel_rfl))
 f169 := Tryz.func58.trans (congrArg some (by kernel_rfl))
 f240 := Tryz.func90.trans (congrArg some (by kernel_rfl))
 f241 := Tryz.func133.trans (congrArg some (by kernel_rfl))
 f276 := Tryz.func128.trans (congrArg some (by kernel_rfl))
 f277 := Tryz.func153.trans (congrArg some (by kernel_rfl))
 t0 := Tryz.underlying0
 a0 := Tryz.isAgg0
 z0 := Tryz.sizeOf0
 v0 := Tryz.zeroValue0
 t3 := Tryz.underlying3
 a3 := Tryz.isAgg3
 z3 := Tryz.sizeOf3
 v3 := Tryz.zeroValue3
 t4 := Tryz.underlying4
 a4 := Tryz.isAgg4
 z4 := Tryz.sizeOf4
 v4 := Tryz.zeroValue4
 t9 := Tryz.underlying9
 a9 := Tryz.isAgg9
 z9 := Tryz.sizeOf9
 v9 := Tryz.zeroValue9
 t20 := Tryz.underlying20
 a20 := Tryz.isAgg20
 z20 := Tryz.sizeOf20
 v20 := Tryz.zeroValue20
 t31 := Tryz.underlying48
 a31 := Tryz.isAgg48
 z31 := Tryz.sizeOf48
 v31 := Tryz.zeroValue48
 t37 := Tryz.underlying133
 a37 := Tryz.isAgg133
 z37 := Tryz.sizeOf133
 v37 := Tryz.zeroValue133
 t70 := Tryz.underlying132
 a70 := Tryz.isAgg132
 z70 := Tryz.sizeOf132
 v70 := Tryz.zeroValue132
 t72 := Tryz.underlying135
 a72 := Tryz.isAgg135
 z72 := Tryz.sizeOf135
 v72 := Tryz.zeroValue135
 t75 := Tryz.underlying138
 a75 := Tryz.isAgg138
 z75 := Tryz.sizeOf138
 v75 := Tryz.zeroValue138
 t76 := Tryz.underlying183
 a76 := Tryz.isAgg183
 z76 := Tryz.sizeOf183
 v76 := Tryz.zeroValue183
 t127 := Tryz.underlying186
 a127 := Tryz.isAgg186
 z127 := Tryz.sizeOf186
 v127 := Tryz.zeroValue186
 t164 := Tryz.underlying218
 a164 := Tryz.isAgg218
 z164 := Tryz.sizeOf218
 v164 := Tryz.zeroValue218 }
theorem bldExtra : Builder.Extra Tryz.prog lays156_ren := {
 sizeBuilder := by kernel_rfl
 liesBuilder := by kernel_rfl
 t5 := Tryz.underlying5
 a5 := Tryz.isAgg5
 z5 := Tryz.sizeOf5
 v5 := Tryz.zeroValue5
 infoByte := by kernel_rfl
 cellsByte := by kernel_rfl
 sizeByte := by kernel_rfl
 neB5 := by decide }
def laysM173_ren : Go.Shelf.Ren := ⟨fun | 173 => 38 | 246 => 73 | 283 => 108 | 284 => 109 | 285 => 110 | 286 => 111 | 129 => 124 | 317 => 140 | 318 => 141 | 319 => 142 | 320 => 143 | 337 => 162 | 338 => 163 | n => n, fun | 2 => 2 | 3 => 3 | 9 => 9 | 4 => 4 | 171 => 199 | 0 => 0 | 53 => 117 | 37 => 133 | 5 => 5 | 173 => 202 | 212 => 234 | 51 => 59 | 20 => 20 | 213 => 235 | 46 => 158 | 232 => 269 | 233 => 270 | n => n, fun | 17 => 1 | 18 => 2 | 19 => 3 | n => n⟩
theorem laysM173 : Go.Proofs.LaysM.n173 Tryz.prog laysM173_ren := {
 mixed := by kernel_rfl
 f129 := Tryz.func124.trans (congrArg some (by kernel_rfl))
 f173 := Tryz.func38.trans (congrArg some (by kernel_rfl))
 f246 := Tryz.func73.trans (congrArg some (by kernel_rfl))
 f283 := Tryz.func108.trans (congrArg some (by kernel_rfl))
 f284 := Tryz.func109.trans (congrArg some (by kernel_rfl))
 f285 := Tryz.func110.trans (congrArg some (by kernel_rfl))
 f286 := Tryz.func111.trans (congrArg some (by kernel_rfl))
 f317 := Tryz.func140.trans (congrArg some (by kernel_rfl))
 f318 := Tryz.func141.trans (congrArg some (by kernel_rfl))
 f319 := Tryz.func142.trans (congrArg some (by kernel_rfl))
 f320 := Tryz.func143.trans (congrArg some (by kernel_rfl))
 f337 := Tryz.func162.trans (congrArg some (by kernel_rfl))
 f338 := Tryz.func163.trans (congrArg some (by kernel_rfl))
 t0 := Tryz.underlying0
 a0 := Tryz.isAgg0
 z0 := Tryz.sizeOf0
 v0 := Tryz.zeroValue0
 t2 := Tryz.underlying2
 a2 := Tryz.isAgg2
 z2 := Tryz.sizeOf2
 v2 := Tryz.zeroValue2
 t3 := Tryz.underlying3
 a3 := Tryz.isAgg3
 z3 := Tryz.sizeOf3
 v3 := Tryz.zeroValue3
 t4 := Tryz.underlying4
 a4 := Tryz.isAgg4
 z4 := Tryz.sizeOf4
 v4 := Tryz.zeroValue4
 t5 := Tryz.underlying5
 a5 := Tryz.isAgg5
 z5 := Tryz.sizeOf5
 v5 := Tryz.zeroValue5
 t9 := Tryz.underlying9
 a9 := Tryz.isAgg9
 z9 := Tryz.sizeOf9
 v9 := Tryz.zeroValue9
 t20 := Tryz.underlying20
 a20 := Tryz.isAgg20
 z20 := Tryz.sizeOf20
 v20 := Tryz.zeroValue20
 t37 := Tryz.underlying133
 a37 := Tryz.isAgg133
 z37 := Tryz.sizeOf133
 v37 := Tryz.zeroValue133
 t46 := Tryz.underlying158
 a46 := Tryz.isAgg158
 z46 := Tryz.sizeOf158
 v46 := Tryz.zeroValue158
 t51 := Tryz.underlying59
 a51 := Tryz.isAgg59
 z51 := Tryz.sizeOf59
 v51 := Tryz.zeroValue59
 t53 := Tryz.underlying117
 a53 := Tryz.isAgg117
 z53 := Tryz.sizeOf117
 v53 := Tryz.zeroValue117
 t171 := Tryz.underlying199
 a171 := Tryz.isAgg199
 z171 := Tryz.sizeOf199
 v171 := Tryz.zeroValue199
 t173 := Tryz.underlying202
 a173 := Tryz.isAgg202
 z173 := Tryz.sizeOf202
 v173 := Tryz.zeroValue202
 t212 := Tryz.underlying234
 a212 := Tryz.isAgg234
 z212 := Tryz.sizeOf234
 v212 := Tryz.zeroValue234
 t213 := Tryz.underlying235
 a213 := Tryz.isAgg235
 z213 := Tryz.sizeOf235
 t232 := Tryz.underlying269
 a232 := Tryz.isAgg269
 z232 := Tryz.sizeOf269
 v232 := Tryz.zeroValue269
 t233 := Tryz.underlying270
 a233 := Tryz.isAgg270
 z233 := Tryz.sizeOf270
 v233 := Tryz.zeroValue270
 g17 := by kernel_rfl
 g18 := by kernel_rfl
 g19 := by kernel_rfl
 i0 := by kernel_rfl
 i2 := by kernel_rfl
 i3 := by kernel_rfl
 i4 := by kernel_rfl
 i5 := by kernel_rfl
 i9 := by kernel_rfl
 i20 := by kernel_rfl
 i37 := by kernel_rfl
 i46 := by kernel_rfl
 i51 := by kernel_rfl
 i53 := by kernel_rfl
 i171 := by kernel_rfl
 i173 := by kernel_rfl
 i212 := by kernel_rfl
 i232 := by kernel_rfl
 i233 := by kernel_rfl
 m17 := by kernel_rfl
 m18 := by kernel_rfl
 m19 := by kernel_rfl }
end Go.Proofs.YtikackodhiollaaGreatDoor
namespace Go.Proofs.YtikackodhiollaaGreatDoor
variable (w0 : World)
open Go.Vc
theorem isNaN_spec (x : List UInt8) : FnE PP w0 [] 149 [.string (ofB x)] [] (.bool false) [] := by
 refine zep en149 fn149 rfl rfl rfl ?_
 repeat' (first|refine zck ?_|refine zcp (by kernel_rfl) ?_|(refine zap rfl ?_; first|refine reg_neB rfl rfl ?_|refine zan rfl ?_|refine zan rfl ?_)|refine zch ?_)
 exact zej rfl ⟨rfl, rfl⟩
theorem less_spec (x y : List UInt8) : FnE PP w0 [] 120 [.string (ofB x), .string (ofB y)] [] (.bool (Go.Sort.ltStr x y)) [] := by
 refine zep en120 fn120 rfl rfl rfl ?_
 repeat' (first|refine zck ?_|refine zcp (by kernel_rfl) ?_|(refine zap rfl ?_; first|refine reg_ltB rfl rfl ?_|refine zaj rfl ?_|refine zak rfl ?_|refine zan rfl ?_|refine zan rfl ?_|refine zah [] (isNaN_spec w0 _) rfl rfl rfl zdj rfl ?_|refine zbv rfl ?_)|refine zch ?_)
 refine zej rfl ⟨?_, rfl⟩
 rfl
end Go.Proofs.YtikackodhiollaaGreatDoor
namespace Go.Proofs.YtikackodhiollaaGreatDoor
variable (w0 : World)
open Go.Vc
open Go.Sort (ltStr swp insInner insOuter insertionSort)
theorem ins_step {a j : Nat} {d : Array (List UInt8)} (h : a < j + 1) (hl : ltStr d[j + 1]! d[j]! = true) : insInner ltStr a (j + 1) d = insInner ltStr a j (swp d (j + 1) j) := by
 rw [insInner]; simp [h, hl]
theorem ins_stop {a j : Nat} {d : Array (List UInt8)} (hl : ltStr d[j + 1]! d[j]! = false) : insInner ltStr a (j + 1) d = d := by
 rw [insInner]; simp [hl]
theorem ins_end {a j : Nat} {d : Array (List UInt8)} (h : j ≤ a) : insInner ltStr a j d = d := by
 cases j with
 | zero => rfl
 | succ j => rw [insInner]; simp; omega
theorem insOuter_lt {a b i : Nat} {d : Array (List UInt8)} (h : i < b) : insOuter ltStr a b i d = insOuter ltStr a b (i + 1) (insInner ltStr a i d) := by
 rw [insOuter, if_pos h]
theorem insOuter_ge {a b i : Nat} {d : Array (List UInt8)} (h : b ≤ i) : insOuter ltStr a b i d = d := by
 rw [insOuter, if_neg (by omega)]
theorem ins_spec (bb N cap : Nat) (D : Array (List UInt8)) (a b : Nat) (hN : N ≤ 4611686018427387903) (hab : a ≤ b) (hb : b ≤ N) (hD : D.size = N) :
   FnE PP w0 [] 114 [.slice (some ⟨bb, 0, none⟩) N cap, .int .i64 a, .int .i64 b] [DatS 9 bb N cap D] (.tuple #[]) [DatS 9 bb N cap (insertionSort ltStr D a b)] := by
 refine zep en114 fn114 rfl rfl rfl ?_
 repeat' (first|refine zck ?_|refine zcp (by kernel_rfl) ?_|refine zcl ?_|(refine zap rfl ?_; first|refine zan rfl ?_|refine zan rfl ?_|refine zau rfl rfl (by omega) ?_)|refine zch ?_)
 refine run_loop (S := Nat × Array (List UInt8)) (fun s => [(0, .slice (some ⟨bb, 0, none⟩) N cap), (1, .int .i64 a), (2, .int .i64 b), (6, .int .i64 s.1)])
   (fun s Γ => Γ = [DatS 9 bb N cap s.2] ∧ a < s.1 ∧ s.1 ≤ b + 1 ∧ s.2.size = N ∧ insOuter ltStr a b s.1 s.2 = insertionSort ltStr D a b)
   (fun s => b + 1 - s.1) (a + 1, D) ⟨rfl, rfl, rfl, rfl, trivial⟩ ⟨rfl, by omega, by omega, hD, rfl⟩ ?_
 rintro ⟨i, d⟩ Γ junk ⟨rfl, h1, h2, h3, h4⟩
 dsimp only at h1 h2 h3 h4 ⊢
 by_cases hi : i < b
 · repeat' (first|refine zck ?_|refine zcp (by kernel_rfl) ?_|refine zcm ?_|refine zcl ?_|(refine zap rfl ?_; first|refine zan rfl ?_|refine zan rfl ?_|refine zbg rfl rfl (by omega) ?_)|refine zch ?_|refine zci rfl ?_)
   refine run_loop (S := Nat × Array (List UInt8)) (fun s => [(0, .slice (some ⟨bb, 0, none⟩) N cap), (1, .int .i64 a), (2, .int .i64 b), (6, .int .i64 i), (7, .int .i64 s.1)])
     (fun s Γ => Γ = [DatS 9 bb N cap s.2] ∧ a ≤ s.1 ∧ s.1 ≤ i ∧ s.2.size = N ∧ insInner ltStr a s.1 s.2 = insInner ltStr a i d)
     (fun s => s.1) (i, d) ⟨rfl, rfl, rfl, rfl, rfl, trivial⟩ ⟨rfl, by omega, by omega, h3, rfl⟩ ?_
   rintro ⟨j, e⟩ Γ junk ⟨rfl, g1, g2, g3, g4⟩
   dsimp only at g1 g2 g3 g4 ⊢
   by_cases hj : a < j
   · obtain ⟨j, rfl⟩ : ∃ m, j = m + 1 := ⟨j - 1, by omega⟩
     repeat' (first|refine zck ?_|refine zeh PP_mixed (by kernel_rfl) (by kernel_rfl) ?_|(refine zap rfl ?_; first|refine reg_load_ds 0 rfl rfl (by omega) ?_|refine zaj rfl ?_|refine zan rfl ?_|refine zah [] (less_spec w0 _ _) rfl rfl rfl zdj rfl ?_|refine zbk rfl rfl (by omega) ?_|refine zav rfl rfl (by omega) ?_|refine zbu rfl ?_|refine zas rfl rfl (by omega) ?_)|refine zch ?_)
     have e1 : ((j + 1 : Nat) : Int).toNat = j + 1 := by omega
     have e2 : (((j + 1 : Nat) : Int) - 1).toNat = j := by omega
     refine zed rfl (fun hE => ?_) (fun hE => ?_)
     · repeat' (first|refine zck ?_|refine zcp (by kernel_rfl) ?_|refine zeh PP_mixed (by kernel_rfl) (by kernel_rfl) ?_|refine zcm ?_|refine zcl ?_|refine zcn ?_|(refine zap rfl ?_; first|refine reg_load_ds 0 rfl rfl (by omega) ?_|refine reg_store_ds 0 rfl rfl rfl (by omega) rfl ?_|refine zan rfl ?_|refine zan rfl ?_|refine zav rfl rfl (by omega) ?_|refine zas rfl rfl (by omega) ?_)|refine zch ?_)
       rw [e1, e2] at hE
       refine zeq ⟨rfl, (j, swp e (j + 1) j), ⟨rfl, rfl, rfl, rfl, zes (by omega), trivial⟩, ⟨?_, by omega, by omega, ?_, ?_⟩, by omega⟩
       · rw [e1, e2]; rfl
       · rw [Go.Sort.size_swp]; exact g3
       · rw [← g4, ins_step hj (decide_eq_true hE)]
     · rw [e1, e2] at hE
       refine zer rfl rfl ?_
       repeat' (first|refine zcp (by kernel_rfl) ?_|refine zcn ?_|(refine zap rfl ?_; first|refine zan rfl ?_|refine zan rfl ?_|refine zau rfl rfl (by omega) ?_)|refine zch ?_)
       refine zeq ⟨rfl, (i + 1, e), ⟨rfl, rfl, rfl, zes (by omega), trivial⟩, ⟨rfl, by omega, by omega, g3, ?_⟩, by omega⟩
       rw [ins_stop (decide_eq_false hE)] at g4
       rw [← h4, insOuter_lt hi, ← g4]
   · repeat' (first|refine zck ?_|refine zeh PP_mixed (by kernel_rfl) (by kernel_rfl) ?_|(refine zap rfl ?_; first|refine zak rfl ?_|refine zan rfl ?_|refine zbl rfl rfl (by omega) ?_|refine zbv rfl ?_)|refine zch ?_|refine zcj rfl ?_)
     refine zer rfl rfl ?_
     repeat' (first|refine zcp (by kernel_rfl) ?_|refine zcn ?_|(refine zap rfl ?_; first|refine zan rfl ?_|refine zan rfl ?_|refine zau rfl rfl (by omega) ?_)|refine zch ?_)
     refine zeq ⟨rfl, (i + 1, e), ⟨rfl, rfl, rfl, zes (by omega), trivial⟩, ⟨rfl, by omega, by omega, g3, ?_⟩, by omega⟩
     rw [ins_end (by omega)] at g4
     rw [← h4, insOuter_lt hi, ← g4]
 · repeat' (first|refine zck ?_|refine zcp (by kernel_rfl) ?_|(refine zap rfl ?_; first|refine zan rfl ?_|refine zbh rfl rfl (by omega) ?_)|refine zch ?_|refine zcj rfl ?_)
   refine zer rfl rfl ?_
   repeat' (first|refine zck ?_|(refine zap rfl ?_; first|refine zaj rfl ?_|refine zak rfl ?_|refine zal rfl ?_|refine zam rfl rfl (fun _ => ?_) (fun _ => ?_))|refine zch ?_)
   refine end_tmp0 rfl ⟨rfl, ?_⟩
   rw [← h4, insOuter_ge (by omega)]
end Go.Proofs.YtikackodhiollaaGreatDoor
namespace Go.Proofs.YtikackodhiollaaGreatDoor
variable (w0 : World)
open Go.Vc
open Go.Sort (ltStr swp reverseLoop reverseRange siftDown heapBuild heapPop heapSort)
theorem revl_lt {i j : Nat} {d : Array (List UInt8)} (h : i < j) : reverseLoop i j d = reverseLoop (i + 1) (j - 1) (swp d i j) := by
 rw [reverseLoop, if_pos h]
theorem revl_ge {i j : Nat} {d : Array (List UInt8)} (h : j ≤ i) : reverseLoop i j d = d := by
 rw [reverseLoop, if_neg (by omega)]
theorem rev_spec (bb N cap : Nat) (D : Array (List UInt8)) (a b : Nat) (hN : N ≤ 4611686018427387903) (hab : a < b) (hb : b ≤ N) (hD : D.size = N) :
   FnE PP w0 [] 118 [.slice (some ⟨bb, 0, none⟩) N cap, .int .i64 a, .int .i64 b] [DatS 9 bb N cap D] (.tuple #[]) [DatS 9 bb N cap (reverseRange D a b)] := by
 refine zep en118 fn118 rfl rfl rfl ?_
 repeat' (first|refine zck ?_|refine zcp (by kernel_rfl) ?_|refine zcl ?_|(refine zap rfl ?_; first|refine zan rfl ?_|refine zan rfl ?_|refine zav rfl rfl (by omega) ?_)|refine zch ?_)
 refine run_loop (S := Nat × Nat × Array (List UInt8)) (fun s => [(0, .slice (some ⟨bb, 0, none⟩) N cap), (6, .int .i64 s.1), (7, .int .i64 s.2.1)])
   (fun s Γ => Γ = [DatS 9 bb N cap s.2.2] ∧ s.1 ≤ s.2.1 + 1 ∧ s.2.1 < b ∧ s.2.2.size = N ∧ reverseLoop s.1 s.2.1 s.2.2 = reverseRange D a b)
   (fun s => s.2.1 + 1 - s.1) (a, b - 1, D) ⟨rfl, rfl, zes (by dsimp only; omega), trivial⟩ ⟨rfl, by dsimp only; omega, by dsimp only; omega, hD, rfl⟩ ?_
 rintro ⟨i, j, d⟩ Γ junk ⟨rfl, h1, h2, h3, h4⟩
 dsimp only at h1 h2 h3 h4 ⊢
 by_cases hi : i < j
 · repeat' (first|refine zck ?_|refine zcp (by kernel_rfl) ?_|refine zeh PP_mixed (by kernel_rfl) (by kernel_rfl) ?_|refine zcm ?_|refine zcl ?_|refine zcn ?_|(refine zap rfl ?_; first|refine reg_load_ds 0 rfl rfl (by omega) ?_|refine reg_store_ds 0 rfl rfl rfl (by omega) rfl ?_|refine zan rfl ?_|refine zan rfl ?_|refine zbg rfl rfl (by omega) ?_|refine zau rfl rfl (by omega) ?_|refine zav rfl rfl (by omega) ?_|refine zas rfl rfl (by omega) ?_)|refine zch ?_|refine zci rfl ?_)
   have e1 : ((i : Nat) : Int).toNat = i := by omega
   have e2 : ((j : Nat) : Int).toNat = j := by omega
   refine zeq ⟨rfl, (i + 1, j - 1, swp d i j), ⟨rfl, zes (by dsimp only; omega), zes (by dsimp only; omega), trivial⟩, ⟨?_, by dsimp only; omega, by dsimp only; omega, ?_, ?_⟩, by dsimp only; omega⟩
   · rw [e1, e2]; rfl
   · rw [Go.Sort.size_swp]; exact h3
   · rw [← h4, revl_lt hi]
 · repeat' (first|refine zck ?_|refine zcp (by kernel_rfl) ?_|(refine zap rfl ?_; first|refine zan rfl ?_|refine zbh rfl rfl (by omega) ?_)|refine zch ?_|refine zcj rfl ?_)
   refine zer rfl rfl ?_
   repeat' (first|refine zck ?_|(refine zap rfl ?_; first|refine zan rfl ?_)|refine zch ?_)
   refine end_tmp0 rfl ⟨rfl, ?_⟩
   rw [← h4, revl_ge (by omega)]
theorem sift_ge {hi first root : Nat} {d : Array (List UInt8)} (h : hi ≤ 2 * root + 1) : siftDown ltStr hi first root d = d := by
 rw [siftDown, dif_pos h]
def gch (hi first root : Nat) (d : Array (List UInt8)) : Nat := if 2 * root + 1 + 1 < hi && ltStr d[first + (2 * root + 1)]! d[first + (2 * root + 1) + 1]! then 2 * root + 2 else 2 * root + 1
theorem gch_lt {hi first root : Nat} {d : Array (List UInt8)} (h : 2 * root + 1 < hi) : gch hi first root d < hi ∧ root < gch hi first root d := by
 unfold gch
 split
 · rename_i hc; simp at hc; omega
 · omega
theorem sift_stop {hi first root : Nat} {d : Array (List UInt8)} (h : 2 * root + 1 < hi) (hl : ltStr d[first + root]! d[first + gch hi first root d]! = false) : siftDown ltStr hi first root d = d := by
 rw [siftDown, dif_neg (by omega)]
 unfold gch at hl
 split
 · rename_i hc; rw [if_pos hc] at hl; simp [hl]
 · rename_i hc; rw [if_neg hc] at hl; simp [hl]
theorem sift_go {hi first root : Nat} {d : Array (List UInt8)} (h : 2 * root + 1 < hi) (hl : ltStr d[first + root]! d[first + gch hi first root d]! = true) :
   siftDown ltStr hi first root d = siftDown ltStr hi first (gch hi first root d) (swp d (first + root) (first + gch hi first root d)) := by
 rw [siftDown, dif_neg (by omega)]
 unfold gch at hl ⊢
 split
 · rename_i hc; rw [if_pos hc] at hl; simp only [hl, Bool.not_true, Bool.false_eq_true, if_false]; rw [dif_pos (by simp at hc; omega)]
 · rename_i hc; rw [if_neg hc] at hl; simp only [hl, Bool.not_true, Bool.false_eq_true, if_false]
set_option maxHeartbeats 2000000 in
theorem sift_spec (w0 : World) (bb N cap : Nat) (D : Array (List UInt8)) (lo hi first : Nat) (hN : N ≤ 1152921504606846975) (hf : first + hi ≤ N) (hlo : lo ≤ hi) (hD : D.size = N) :
   FnE PP w0 [] 144 [.slice (some ⟨bb, 0, none⟩) N cap, .int .i64 lo, .int .i64 hi, .int .i64 first] [DatS 9 bb N cap D] (.tuple #[]) [DatS 9 bb N cap (siftDown ltStr hi first lo D)] := by
 refine zep en144 fn144 rfl rfl rfl ?_
 repeat' (first|refine zck ?_|refine zcp (by kernel_rfl) ?_|refine zcl ?_|(refine zap rfl ?_; first|refine zan rfl ?_|refine zan rfl ?_)|refine zch ?_)
 refine run_loop (S := Nat × Array (List UInt8)) (fun s => [(0, .slice (some ⟨bb, 0, none⟩) N cap), (2, .int .i64 hi), (3, .int .i64 first), (8, .int .i64 s.1)])
   (fun s Γ => Γ = [DatS 9 bb N cap s.2] ∧ s.1 ≤ hi ∧ s.2.size = N ∧ siftDown ltStr hi first s.1 s.2 = siftDown ltStr hi first lo D)
   (fun s => hi - s.1) (lo, D) ⟨rfl, rfl, rfl, rfl, trivial⟩ ⟨rfl, by omega, hD, rfl⟩ ?_
 rintro ⟨r, d⟩ Γ junk ⟨rfl, h1, h3, h4⟩
 dsimp only at h1 h3 h4 ⊢
 by_cases hi2 : 2 * r + 1 < hi
 · have e3 : ((first : Int) + (2 * (r : Int) + 1)).toNat = first + (2 * r + 1) := by omega
   have e4 : ((first : Int) + (2 * (r : Int) + 1) + 1).toNat = first + (2 * r + 1) + 1 := by omega
   by_cases hc : 2 * r + 2 < hi
   · repeat' (first|refine zck ?_|refine zcp (by kernel_rfl) ?_|refine zeh PP_mixed (by kernel_rfl) (by kernel_rfl) ?_|refine zcm ?_|refine zcl ?_|(refine zap rfl ?_; first|refine reg_load_ds 0 rfl rfl (by omega) ?_|refine zaj rfl ?_|refine zan rfl ?_|refine zan rfl ?_|refine zah [] (less_spec w0 _ _) rfl rfl rfl zdj rfl ?_|refine zbg rfl rfl (by omega) ?_|refine zbn rfl rfl (by omega) ?_|refine zau rfl rfl (by omega) ?_|refine zaw rfl rfl (by omega) ?_|refine zbu rfl ?_|refine zas rfl rfl (by omega) ?_)|refine zch ?_|refine zcj rfl ?_)
     refine zed rfl (fun hE => ?_) (fun hE => ?_)
     · have hg : gch hi first r d = 2 * r + 2 := by
         unfold gch; rw [if_pos]
         rw [e3, e4] at hE
         simp only [Bool.and_eq_true, decide_eq_true_eq]; exact ⟨by omega, decide_eq_true hE⟩
       have e1 : ((first : Int) + (r : Int)).toNat = first + r := by omega
       have e2 : ((first : Int) + (2 * (r : Int) + 1 + 1)).toNat = first + (2 * r + 2) := by omega
       repeat' (first|refine zck ?_|refine zcp (by kernel_rfl) ?_|refine zeh PP_mixed (by kernel_rfl) (by kernel_rfl) ?_|(refine zap rfl ?_; first|refine reg_load_ds 0 rfl rfl (by omega) ?_|refine zan rfl ?_|refine zan rfl ?_|refine zah [] (less_spec w0 _ _) rfl rfl rfl zdj rfl ?_|refine zau rfl rfl (by omega) ?_|refine zby rfl ?_|refine zas rfl rfl (by omega) ?_)|refine zch ?_)
       refine zed rfl (fun hE2 => ?_) (fun hE2 => ?_)
       · rw [e1, e2] at hE2
         refine qret0 (fun _ _ h => h) rfl ⟨rfl, (show [_] = [_] from ?_)⟩
         rw [← h4, sift_stop hi2 (by rw [hg]; exact decide_eq_false (by simpa using hE2))]
       · rw [e1, e2] at hE2
         repeat' (first|refine zck ?_|refine zcp (by kernel_rfl) ?_|refine zeh PP_mixed (by kernel_rfl) (by kernel_rfl) ?_|refine zcm ?_|refine zcn ?_|(refine zap rfl ?_; first|refine reg_load_ds 0 rfl rfl (by omega) ?_|refine reg_store_ds 0 rfl rfl rfl (by omega) rfl ?_|refine zan rfl ?_|refine zan rfl ?_|refine zau rfl rfl (by omega) ?_|refine zas rfl rfl (by omega) ?_)|refine zch ?_)
         refine zeq ⟨rfl, (2 * r + 2, swp d (first + r) (first + (2 * r + 2))), ⟨rfl, rfl, rfl, zes (by dsimp only; omega), trivial⟩, ⟨?_, by dsimp only; omega, ?_, ?_⟩, by dsimp only; omega⟩
         · rw [e1, e2]; rfl
         · rw [Go.Sort.size_swp]; exact h3
         · rw [← h4, sift_go hi2 (by rw [hg]; exact decide_eq_true (by simpa using hE2)), hg]
     · have hg : gch hi first r d = 2 * r + 1 := by
         unfold gch; rw [if_neg]
         rw [e3, e4] at hE
         simp only [Bool.and_eq_true, decide_eq_true_eq, not_and]; intro _ h; exact hE (of_decide_eq_true h)
       have e1 : ((first : Int) + (r : Int)).toNat = first + r := by omega
       have e2 : ((first : Int) + (2 * (r : Int) + 1)).toNat = first + (2 * r + 1) := by omega
       repeat' (first|refine zck ?_|refine zeh PP_mixed (by kernel_rfl) (by kernel_rfl) ?_|refine zcm ?_|(refine zap rfl ?_; first|refine reg_load_ds 0 rfl rfl (by omega) ?_|refine zan rfl ?_|refine zah [] (less_spec w0 _ _) rfl rfl rfl zdj rfl ?_|refine zau rfl rfl (by omega) ?_|refine zby rfl ?_|refine zas rfl rfl (by omega) ?_)|refine zch ?_)
       refine zed rfl (fun hE2 => ?_) (fun hE2 => ?_)
       · rw [e1, e2] at hE2
         refine qret0 (fun _ _ h => h) rfl ⟨rfl, (show [_] = [_] from ?_)⟩
         rw [← h4, sift_stop hi2 (by rw [hg]; exact decide_eq_false (by simpa using hE2))]
       · rw [e1, e2] at hE2
         repeat' (first|refine zck ?_|refine zcp (by kernel_rfl) ?_|refine zeh PP_mixed (by kernel_rfl) (by kernel_rfl) ?_|refine zcm ?_|refine zcn ?_|(refine zap rfl ?_; first|refine reg_load_ds 0 rfl rfl (by omega) ?_|refine reg_store_ds 0 rfl rfl rfl (by omega) rfl ?_|refine zan rfl ?_|refine zan rfl ?_|refine zau rfl rfl (by omega) ?_|refine zas rfl rfl (by omega) ?_)|refine zch ?_)
         refine zeq ⟨rfl, (2 * r + 1, swp d (first + r) (first + (2 * r + 1))), ⟨rfl, rfl, rfl, zes (by dsimp only; omega), trivial⟩, ⟨?_, by dsimp only; omega, ?_, ?_⟩, by dsimp only; omega⟩
         · rw [e1, e2]; rfl
         · rw [Go.Sort.size_swp]; exact h3
         · rw [← h4, sift_go hi2 (by rw [hg]; exact decide_eq_true (by simpa using hE2)), hg]
   · have hg : gch hi first r d = 2 * r + 1 := by
       unfold gch; rw [if_neg]
       simp only [Bool.and_eq_true, decide_eq_true_eq, not_and]; intro h; omega
     have e1 : ((first : Int) + (r : Int)).toNat = first + r := by omega
     have e2 : ((first : Int) + (2 * (r : Int) + 1)).toNat = first + (2 * r + 1) := by omega
     repeat' (first|refine zck ?_|refine zcp (by kernel_rfl) ?_|refine zeh PP_mixed (by kernel_rfl) (by kernel_rfl) ?_|refine zcm ?_|refine zcl ?_|(refine zap rfl ?_; first|refine reg_load_ds 0 rfl rfl (by omega) ?_|refine zak rfl ?_|refine zan rfl ?_|refine zan rfl ?_|refine zah [] (less_spec w0 _ _) rfl rfl rfl zdj rfl ?_|refine zbh rfl rfl (by omega) ?_|refine zbn rfl rfl (by omega) ?_|refine zau rfl rfl (by omega) ?_|refine zaw rfl rfl (by omega) ?_|refine zby rfl ?_|refine zbv rfl ?_|refine zas rfl rfl (by omega) ?_)|refine zch ?_|refine zcj rfl ?_)
     refine zed rfl (fun hE2 => ?_) (fun hE2 => ?_)
     · rw [e1, e2] at hE2
       refine qret0 (fun _ _ h => h) rfl ⟨rfl, (show [_] = [_] from ?_)⟩
       rw [← h4, sift_stop hi2 (by rw [hg]; exact decide_eq_false (by simpa using hE2))]
     · rw [e1, e2] at hE2
       repeat' (first|refine zck ?_|refine zcp (by kernel_rfl) ?_|refine zeh PP_mixed (by kernel_rfl) (by kernel_rfl) ?_|refine zcm ?_|refine zcn ?_|(refine zap rfl ?_; first|refine reg_load_ds 0 rfl rfl (by omega) ?_|refine reg_store_ds 0 rfl rfl rfl (by omega) rfl ?_|refine zan rfl ?_|refine zan rfl ?_|refine zau rfl rfl (by omega) ?_|refine zas rfl rfl (by omega) ?_)|refine zch ?_)
       refine zeq ⟨rfl, (2 * r + 1, swp d (first + r) (first + (2 * r + 1))), ⟨rfl, rfl, rfl, zes (by dsimp only; omega), trivial⟩, ⟨?_, by dsimp only; omega, ?_, ?_⟩, by dsimp only; omega⟩
       · rw [e1, e2]; rfl
       · rw [Go.Sort.size_swp]; exact h3
       · rw [← h4, sift_go hi2 (by rw [hg]; exact decide_eq_true (by simpa using hE2)), hg]
 · repeat' (first|refine zck ?_|refine zcp (by kernel_rfl) ?_|refine zcl ?_|(refine zap rfl ?_; first|refine zan rfl ?_|refine zan rfl ?_|refine zbm rfl rfl (by omega) ?_|refine zau rfl rfl (by omega) ?_|refine zaw rfl rfl (by omega) ?_)|refine zch ?_|refine zci rfl ?_)
   refine zer rfl rfl ?_
   repeat' (first|refine zck ?_|(refine zap rfl ?_; first|refine zaj rfl ?_|refine zak rfl ?_|refine zal rfl ?_|refine zam rfl rfl (fun _ => ?_) (fun _ => ?_))|refine zch ?_)
   refine end_tmp0 rfl ⟨rfl, ?_⟩
   rw [← h4, sift_ge (by omega)]
theorem sift_specZ (bb N cap : Nat) (D : Array (List UInt8)) (zl zh zf : Int) (lo hi first : Nat) (hN : N ≤ 1152921504606846975) (hf : first + hi ≤ N) (hlo : lo ≤ hi) (hD : D.size = N) (e1 : zl = lo) (e2 : zh = hi) (e3 : zf = first) :
   FnE PP w0 [] 144 [.slice (some ⟨bb, 0, none⟩) N cap, .int .i64 zl, .int .i64 zh, .int .i64 zf] [DatS 9 bb N cap D] (.tuple #[]) [DatS 9 bb N cap (siftDown ltStr hi first lo D)] := by
 subst e1; subst e2; subst e3; exact sift_spec w0 bb N cap D lo hi first hN hf hlo hD
end Go.Proofs.YtikackodhiollaaGreatDoor
namespace Go.Proofs.YtikackodhiollaaGreatDoor
variable (w0 : World)
open Go.Vc
open Go.Sort (ltStr swp siftDown heapBuild heapPop heapSort)
theorem size_sift (hi first : Nat) : ∀ (m root : Nat) (d : Array (List UInt8)), hi - root ≤ m → (siftDown ltStr hi first root d).size = d.size := by
 intro m
 induction m with
 | zero => intro root d h; rw [sift_ge (by omega)]
 | succ m ih =>
   intro root d h
   by_cases h1 : 2 * root + 1 < hi
   · have h2 := gch_lt (first := first) (d := d) h1
     cases hl : ltStr d[first + root]! d[first + gch hi first root d]! with
     | false => rw [sift_stop h1 hl]
     | true => rw [sift_go h1 hl, ih _ _ (by omega), Go.Sort.size_swp]
   · rw [sift_ge (by omega)]
theorem heap_spec (bb N cap : Nat) (D : Array (List UInt8)) (a b : Nat) (hN : N ≤ 1152921504606846975) (hab : a < b) (hb : b ≤ N) (hD : D.size = N) :
   FnE PP w0 [] 115 [.slice (some ⟨bb, 0, none⟩) N cap, .int .i64 a, .int .i64 b] [DatS 9 bb N cap D] (.tuple #[]) [DatS 9 bb N cap (heapSort ltStr D a b)] := by
 refine zep en115 fn115 rfl rfl rfl ?_
 repeat' (first|refine zck ?_|refine zcp (by kernel_rfl) ?_|refine zcl ?_|(refine zap rfl ?_; first|refine zan rfl ?_|refine zan rfl ?_|refine zav rfl rfl (by omega) ?_|refine zax rfl rfl (by omega) ?_)|refine zch ?_)
 refine run_loop (S := Nat × Array (List UInt8)) (fun s => [(0, .slice (some ⟨bb, 0, none⟩) N cap), (6, .int .i64 a), (7, .int .i64 0), (8, .int .i64 (b - a)), (9, .int .i64 ((s.1 : Int) - 1))])
   (fun s Γ => Γ = [DatS 9 bb N cap s.2] ∧ s.1 ≤ b - a ∧ s.2.size = N ∧ heapBuild ltStr (b - a) a s.1 s.2 = heapBuild ltStr (b - a) a ((b - a - 1) / 2 + 1) D)
   (fun s => s.1) ((b - a - 1) / 2 + 1, D) ⟨rfl, rfl, rfl, rfl, zes (by dsimp only; omega), trivial⟩ ⟨rfl, by dsimp only; omega, hD, rfl⟩ ?_
 rintro ⟨i, d⟩ Γ junk ⟨rfl, h1, h3, h4⟩
 dsimp only at h1 h3 h4 ⊢
 by_cases hi : 0 < i
 · obtain ⟨i, rfl⟩ : ∃ m, i = m + 1 := ⟨i - 1, by omega⟩
   repeat' (first|refine zck ?_|refine zcp (by kernel_rfl) ?_|refine zcm ?_|refine zcl ?_|refine zcn ?_|(refine zap rfl ?_; first|refine zan rfl ?_|refine zan rfl ?_|refine zah [0] (sift_specZ w0 bb N cap _ _ _ _ i (b - a) a hN (by omega) (by omega) h3 (by omega) (by omega) rfl) rfl rfl rfl zdj rfl ?_|refine zbm rfl rfl (by omega) ?_|refine zav rfl rfl (by omega) ?_)|refine zch ?_|refine zci rfl ?_)
   refine zeq ⟨rfl, (i, siftDown ltStr (b - a) a i d), ⟨rfl, rfl, rfl, rfl, zes (by dsimp only; omega), trivial⟩, ⟨rfl, by dsimp only; omega, ?_, ?_⟩, by dsimp only; omega⟩
   · rw [size_sift _ _ _ _ _ (Nat.le_refl _)]; exact h3
   · rw [← h4]; rfl
 · repeat' (first|refine zck ?_|refine zcp (by kernel_rfl) ?_|(refine zap rfl ?_; first|refine zan rfl ?_|refine zbn rfl rfl (by omega) ?_)|refine zch ?_|refine zcj rfl ?_)
   refine zer rfl rfl ?_
   have hi0 : i = 0 := by omega
   subst hi0
   repeat' (first|refine zck ?_|refine zcp (by kernel_rfl) ?_|refine zcl ?_|(refine zap rfl ?_; first|refine zan rfl ?_|refine zan rfl ?_|refine zav rfl rfl (by omega) ?_)|refine zch ?_)
   refine run_loop (S := Nat × Array (List UInt8)) (fun s => [(0, .slice (some ⟨bb, 0, none⟩) N cap), (6, .int .i64 a), (7, .int .i64 0), (8, .int .i64 (b - a)), (10, .int .i64 ((s.1 : Int) - 1))])
     (fun s Γ => Γ = [DatS 9 bb N cap s.2] ∧ s.1 ≤ b - a ∧ s.2.size = N ∧ heapPop ltStr a s.1 s.2 = heapSort ltStr D a b)
     (fun s => s.1) (b - a, d) ⟨rfl, rfl, rfl, rfl, zes (by dsimp only; omega), trivial⟩ ⟨rfl, by dsimp only; omega, h3, by unfold heapSort; rw [← h4]; rfl⟩ ?_
   rintro ⟨i, d⟩ Γ junk ⟨rfl, g1, g3, g4⟩
   dsimp only at g1 g3 g4 ⊢
   by_cases hi : 0 < i
   · obtain ⟨i, rfl⟩ : ∃ m, i = m + 1 := ⟨i - 1, by omega⟩
     have e1 : ((a : Nat) : Int).toNat = a := by omega
     have e2 : ((a : Int) + (((i + 1 : Nat) : Int) - 1)).toNat = a + i := by omega
     have hs : (swp d (a : Int).toNat ((a : Int) + (((i + 1 : Nat) : Int) - 1)).toNat).size = N := by rw [Go.Sort.size_swp]; exact g3
     repeat' (first|refine zck ?_|refine zcp (by kernel_rfl) ?_|refine zeh PP_mixed (by kernel_rfl) (by kernel_rfl) ?_|refine zcm ?_|refine zcl ?_|refine zcn ?_|(refine zap rfl ?_; first|refine reg_load_ds 0 rfl rfl (by omega) ?_|refine reg_store_ds 0 rfl rfl rfl (by omega) rfl ?_|refine zan rfl ?_|refine zan rfl ?_|refine zah [0] (sift_specZ w0 bb N cap _ _ _ _ 0 i a hN (by omega) (by omega) hs (by omega) (by omega) rfl) rfl rfl rfl zdj rfl ?_|refine zbm rfl rfl (by omega) ?_|refine zau rfl rfl (by omega) ?_|refine zav rfl rfl (by omega) ?_|refine zas rfl rfl (by omega) ?_)|refine zch ?_|refine zci rfl ?_)
     refine zeq ⟨rfl, (i, siftDown ltStr i a 0 (swp d a (a + i))), ⟨rfl, rfl, rfl, rfl, zes (by dsimp only; omega), trivial⟩, ⟨?_, by dsimp only; omega, ?_, ?_⟩, by dsimp only; omega⟩
     · rw [e1, e2]; rfl
     · rw [size_sift _ _ _ _ _ (Nat.le_refl _), Go.Sort.size_swp]; exact g3
     · rw [← g4]; rfl
   · repeat' (first|refine zck ?_|refine zcp (by kernel_rfl) ?_|(refine zap rfl ?_; first|refine zan rfl ?_|refine zbn rfl rfl (by omega) ?_)|refine zch ?_|refine zcj rfl ?_)
     refine zer rfl rfl ?_
     have hi0 : i = 0 := by omega
     subst hi0
     repeat' (first|refine zck ?_|(refine zap rfl ?_; first|refine zan rfl ?_)|refine zch ?_)
     refine end_tmp0 rfl ⟨rfl, (show [_] = [_] from ?_)⟩
     rw [← g4]; rfl
end Go.Proofs.YtikackodhiollaaGreatDoor
