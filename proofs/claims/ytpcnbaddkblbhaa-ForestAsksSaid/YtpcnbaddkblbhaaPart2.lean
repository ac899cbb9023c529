import Derived.Test.YtpcnbaddkblbhaaProg
import Derived.Test.YtpcnbaddkblbhaaKit
/- Lemmas and walks for the claims of this seat (own work): Base. -/
/- The facts of the loaded program that the walks use: types and functions, each by the kernel. Made by gen.py. -/
namespace Go.Proofs.Ytpcnbaddkblbhaa
open Go.Vc
@[irreducible] noncomputable def PP : Program := Try.prog
theorem PP_def : PP = Try.prog := by unfold PP; rfl
theorem PP_mixed : PP.follows .mixedOrders = true := by kernel_rfl
instance : TShape PP 1 false 1 := ⟨fun w => by kernel_rfl, fun w => by kernel_rfl⟩
instance : TInfo PP 1 8 := ⟨fun w => ⟨Try.t1, by rw [PP_def]; exact Try.typeInfo1 w, rfl⟩⟩
instance : TZero PP 1 [.nilFunc] := ⟨fun w => ⟨.nilFunc, by kernel_rfl, by kernel_rfl⟩⟩
instance : TZeroV PP 1 (.nilFunc) := ⟨fun w => by kernel_rfl⟩
instance : TShape PP 2 false 1 := ⟨fun w => by kernel_rfl, fun w => by kernel_rfl⟩
instance : TInfo PP 2 8 := ⟨fun w => ⟨Try.t2, by rw [PP_def]; exact Try.typeInfo2 w, rfl⟩⟩
instance : TZero PP 2 [.int .i64 0] := ⟨fun w => ⟨.int .i64 0, by kernel_rfl, by kernel_rfl⟩⟩
instance : TZeroV PP 2 (.int .i64 0) := ⟨fun w => by kernel_rfl⟩
instance : TUnd PP 2 (.int (.i64)) := ⟨by kernel_rfl⟩
instance : TShape PP 3 false 1 := ⟨fun w => by kernel_rfl, fun w => by kernel_rfl⟩
instance : TInfo PP 3 8 := ⟨fun w => ⟨Try.t3, by rw [PP_def]; exact Try.typeInfo3 w, rfl⟩⟩
instance : TZero PP 3 [.int .i64 0] := ⟨fun w => ⟨.int .i64 0, by kernel_rfl, by kernel_rfl⟩⟩
instance : TZeroV PP 3 (.int .i64 0) := ⟨fun w => by kernel_rfl⟩
instance : TUnd PP 3 (.int (.i64)) := ⟨by kernel_rfl⟩
instance : TShape PP 4 false 1 := ⟨fun w => by kernel_rfl, fun w => by kernel_rfl⟩
instance : TInfo PP 4 1 := ⟨fun w => ⟨Try.t4, by rw [PP_def]; exact Try.typeInfo4 w, rfl⟩⟩
instance : TZero PP 4 [.bool false] := ⟨fun w => ⟨.bool false, by kernel_rfl, by kernel_rfl⟩⟩
instance : TZeroV PP 4 (.bool false) := ⟨fun w => by kernel_rfl⟩
instance : TUnd PP 4 (.bool) := ⟨by kernel_rfl⟩
instance : TShape PP 5 false 1 := ⟨fun w => by kernel_rfl, fun w => by kernel_rfl⟩
instance : TInfo PP 5 1 := ⟨fun w => ⟨Try.t5, by rw [PP_def]; exact Try.typeInfo5 w, rfl⟩⟩
instance : TZero PP 5 [.int .u8 0] := ⟨fun w => ⟨.int .u8 0, by kernel_rfl, by kernel_rfl⟩⟩
instance : TZeroV PP 5 (.int .u8 0) := ⟨fun w => by kernel_rfl⟩
instance : TUnd PP 5 (.int (.u8)) := ⟨by kernel_rfl⟩
instance : TShape PP 6 false 1 := ⟨fun w => by kernel_rfl, fun w => by kernel_rfl⟩
instance : TInfo PP 6 1 := ⟨fun w => ⟨Try.t6, by rw [PP_def]; exact Try.typeInfo6 w, rfl⟩⟩
instance : TZero PP 6 [.int .u8 0] := ⟨fun w => ⟨.int .u8 0, by kernel_rfl, by kernel_rfl⟩⟩
instance : TZeroV PP 6 (.int .u8 0) := ⟨fun w => by kernel_rfl⟩
instance : TUnd PP 6 (.int (.u8)) := ⟨by kernel_rfl⟩
instance : TShape PP 7 true 4 := ⟨fun w => by kernel_rfl, fun w => by kernel_rfl⟩
instance : TInfo PP 7 24 := ⟨fun w => ⟨Try.t7, by rw [PP_def]; exact Try.typeInfo7 w, rfl⟩⟩
instance : TZero PP 7 [.int .i64 0, .int .i64 0, .bool false, .int .u8 0] := ⟨fun w => ⟨.agg #[.int .i64 0, .int .i64 0, .bool false, .int .u8 0], by kernel_rfl, by kernel_rfl⟩⟩
instance : TZeroV PP 7 (.agg #[.int .i64 0, .int .i64 0, .bool false, .int .u8 0]) := ⟨fun w => by kernel_rfl⟩
instance : TStruct PP 7 [.int .i64 0, .int .i64 0, .bool false, .int .u8 0] [(0, 1), (1, 1), (2, 1), (3, 1)] := ⟨⟨_, by rw [PP_def]; exact Try.underlying7, fun w => by kernel_rfl⟩, fun w => ⟨.agg #[.int .i64 0, .int .i64 0, .bool false, .int .u8 0], by kernel_rfl, by kernel_rfl⟩⟩
instance : TField PP 7 0 0 := ⟨fun b o w => by kernel_rfl⟩
instance : TPart PP 7 0 false 0 1 := part_lemma (ft := 2) (by rw [PP_def]; exact Try.underlying7) rfl rfl rfl
instance : TField PP 7 1 1 := ⟨fun b o w => by kernel_rfl⟩
instance : TPart PP 7 1 false 1 1 := part_lemma (ft := 3) (by rw [PP_def]; exact Try.underlying7) rfl rfl rfl
instance : TField PP 7 2 2 := ⟨fun b o w => by kernel_rfl⟩
instance : TPart PP 7 2 false 2 1 := part_lemma (ft := 4) (by rw [PP_def]; exact Try.underlying7) rfl rfl rfl
instance : TField PP 7 3 3 := ⟨fun b o w => by kernel_rfl⟩
instance : TPart PP 7 3 false 3 1 := part_lemma (ft := 6) (by rw [PP_def]; exact Try.underlying7) rfl rfl rfl
instance : TShape PP 8 true 4 := ⟨fun w => by kernel_rfl, fun w => by kernel_rfl⟩
instance : TInfo PP 8 24 := ⟨fun w => ⟨Try.t8, by rw [PP_def]; exact Try.typeInfo8 w, rfl⟩⟩
instance : TZero PP 8 [.int .i64 0, .int .i64 0, .bool false, .int .u8 0] := ⟨fun w => ⟨.agg #[.int .i64 0, .int .i64 0, .bool false, .int .u8 0], by kernel_rfl, by kernel_rfl⟩⟩
instance : TZeroV PP 8 (.agg #[.int .i64 0, .int .i64 0, .bool false, .int .u8 0]) := ⟨fun w => by kernel_rfl⟩
instance : TStruct PP 8 [.int .i64 0, .int .i64 0, .bool false, .int .u8 0] [(0, 1), (1, 1), (2, 1), (3, 1)] := ⟨⟨_, by rw [PP_def]; exact Try.underlying8, fun w => by kernel_rfl⟩, fun w => ⟨.agg #[.int .i64 0, .int .i64 0, .bool false, .int .u8 0], by kernel_rfl, by kernel_rfl⟩⟩
instance : TField PP 8 0 0 := ⟨fun b o w => by kernel_rfl⟩
instance : TPart PP 8 0 false 0 1 := part_lemma (ft := 2) (by rw [PP_def]; exact Try.underlying8) rfl rfl rfl
instance : TField PP 8 1 1 := ⟨fun b o w => by kernel_rfl⟩
instance : TPart PP 8 1 false 1 1 := part_lemma (ft := 3) (by rw [PP_def]; exact Try.underlying8) rfl rfl rfl
instance : TField PP 8 2 2 := ⟨fun b o w => by kernel_rfl⟩
instance : TPart PP 8 2 false 2 1 := part_lemma (ft := 4) (by rw [PP_def]; exact Try.underlying8) rfl rfl rfl
instance : TField PP 8 3 3 := ⟨fun b o w => by kernel_rfl⟩
instance : TPart PP 8 3 false 3 1 := part_lemma (ft := 6) (by rw [PP_def]; exact Try.underlying8) rfl rfl rfl
instance : TShape PP 9 false 1 := ⟨fun w => by kernel_rfl, fun w => by kernel_rfl⟩
instance : TInfo PP 9 16 := ⟨fun w => ⟨Try.t9, by rw [PP_def]; exact Try.typeInfo9 w, rfl⟩⟩
instance : TZero PP 9 [.string ByteArray.empty] := ⟨fun w => ⟨.string ByteArray.empty, by kernel_rfl, by kernel_rfl⟩⟩
instance : TZeroV PP 9 (.string ByteArray.empty) := ⟨fun w => by kernel_rfl⟩
instance : TUnd PP 9 (.string) := ⟨by kernel_rfl⟩
instance : TShape PP 10 false 1 := ⟨fun w => by kernel_rfl, fun w => by kernel_rfl⟩
instance : TInfo PP 10 16 := ⟨fun w => ⟨Try.t10, by rw [PP_def]; exact Try.typeInfo10 w, rfl⟩⟩
instance : TZero PP 10 [.string ByteArray.empty] := ⟨fun w => ⟨.string ByteArray.empty, by kernel_rfl, by kernel_rfl⟩⟩
instance : TZeroV PP 10 (.string ByteArray.empty) := ⟨fun w => by kernel_rfl⟩
instance : TUnd PP 10 (.string) := ⟨by kernel_rfl⟩
instance : TShape PP 11 false 1 := ⟨fun w => by kernel_rfl, fun w => by kernel_rfl⟩
instance : TInfo PP 11 16 := ⟨fun w => ⟨Try.t11, by rw [PP_def]; exact Try.typeInfo11 w, rfl⟩⟩
instance : TZero PP 11 [.string ByteArray.empty] := ⟨fun w => ⟨.string ByteArray.empty, by kernel_rfl, by kernel_rfl⟩⟩
instance : TZeroV PP 11 (.string ByteArray.empty) := ⟨fun w => by kernel_rfl⟩
instance : TUnd PP 11 (.string) := ⟨by kernel_rfl⟩
instance : TShape PP 12 false 1 := ⟨fun w => by kernel_rfl, fun w => by kernel_rfl⟩
instance : TInfo PP 12 8 := ⟨fun w => ⟨Try.t12, by rw [PP_def]; exact Try.typeInfo12 w, rfl⟩⟩
instance : TZero PP 12 [.int .u64 0] := ⟨fun w => ⟨.int .u64 0, by kernel_rfl, by kernel_rfl⟩⟩
instance : TZeroV PP 12 (.int .u64 0) := ⟨fun w => by kernel_rfl⟩
instance : TUnd PP 12 (.int (.u64)) := ⟨by kernel_rfl⟩
instance : TShape PP 13 true 2 := ⟨fun w => by kernel_rfl, fun w => by kernel_rfl⟩
instance : TInfo PP 13 24 := ⟨fun w => ⟨Try.t13, by rw [PP_def]; exact Try.typeInfo13 w, rfl⟩⟩
instance : TZero PP 13 [.string ByteArray.empty, .int .u64 0] := ⟨fun w => ⟨.agg #[.string ByteArray.empty, .int .u64 0], by kernel_rfl, by kernel_rfl⟩⟩
instance : TZeroV PP 13 (.agg #[.string ByteArray.empty, .int .u64 0]) := ⟨fun w => by kernel_rfl⟩
instance : TStruct PP 13 [.string ByteArray.empty, .int .u64 0] [(0, 1), (1, 1)] := ⟨⟨_, by rw [PP_def]; exact Try.underlying13, fun w => by kernel_rfl⟩, fun w => ⟨.agg #[.string ByteArray.empty, .int .u64 0], by kernel_rfl, by kernel_rfl⟩⟩
instance : TField PP 13 0 0 := ⟨fun b o w => by kernel_rfl⟩
instance : TPart PP 13 0 false 0 1 := part_lemma (ft := 9) (by rw [PP_def]; exact Try.underlying13) rfl rfl rfl
instance : TField PP 13 1 1 := ⟨fun b o w => by kernel_rfl⟩
instance : TPart PP 13 1 false 1 1 := part_lemma (ft := 12) (by rw [PP_def]; exact Try.underlying13) rfl rfl rfl
instance : TShape PP 14 true 2 := ⟨fun w => by kernel_rfl, fun w => by kernel_rfl⟩
instance : TInfo PP 14 24 := ⟨fun w => ⟨Try.t14, by rw [PP_def]; exact Try.typeInfo14 w, rfl⟩⟩
instance : TZero PP 14 [.string ByteArray.empty, .int .u64 0] := ⟨fun w => ⟨.agg #[.string ByteArray.empty, .int .u64 0], by kernel_rfl, by kernel_rfl⟩⟩
instance : TZeroV PP 14 (.agg #[.string ByteArray.empty, .int .u64 0]) := ⟨fun w => by kernel_rfl⟩
instance : TStruct PP 14 [.string ByteArray.empty, .int .u64 0] [(0, 1), (1, 1)] := ⟨⟨_, by rw [PP_def]; exact Try.underlying14, fun w => by kernel_rfl⟩, fun w => ⟨.agg #[.string ByteArray.empty, .int .u64 0], by kernel_rfl, by kernel_rfl⟩⟩
instance : TField PP 14 0 0 := ⟨fun b o w => by kernel_rfl⟩
instance : TPart PP 14 0 false 0 1 := part_lemma (ft := 9) (by rw [PP_def]; exact Try.underlying14) rfl rfl rfl
instance : TField PP 14 1 1 := ⟨fun b o w => by kernel_rfl⟩
instance : TPart PP 14 1 false 1 1 := part_lemma (ft := 12) (by rw [PP_def]; exact Try.underlying14) rfl rfl rfl
instance : TShape PP 15 false 1 := ⟨fun w => by kernel_rfl, fun w => by kernel_rfl⟩
instance : TInfo PP 15 8 := ⟨fun w => ⟨Try.t15, by rw [PP_def]; exact Try.typeInfo15 w, rfl⟩⟩
instance : TZero PP 15 [.pointer none] := ⟨fun w => ⟨.pointer none, by kernel_rfl, by kernel_rfl⟩⟩
instance : TZeroV PP 15 (.pointer none) := ⟨fun w => by kernel_rfl⟩
instance : TUnd PP 15 (.pointer 160) := ⟨by kernel_rfl⟩
instance : TShape PP 16 false 1 := ⟨fun w => by kernel_rfl, fun w => by kernel_rfl⟩
instance : TInfo PP 16 8 := ⟨fun w => ⟨Try.t16, by rw [PP_def]; exact Try.typeInfo16 w, rfl⟩⟩
instance : TZero PP 16 [.pointer none] := ⟨fun w => ⟨.pointer none, by kernel_rfl, by kernel_rfl⟩⟩
instance : TZeroV PP 16 (.pointer none) := ⟨fun w => by kernel_rfl⟩
instance : TUnd PP 16 (.pointer 163) := ⟨by kernel_rfl⟩
instance : TShape PP 17 false 1 := ⟨fun w => by kernel_rfl, fun w => by kernel_rfl⟩
instance : TInfo PP 17 8 := ⟨fun w => ⟨Try.t17, by rw [PP_def]; exact Try.typeInfo17 w, rfl⟩⟩
instance : TZero PP 17 [.pointer none] := ⟨fun w => ⟨.pointer none, by kernel_rfl, by kernel_rfl⟩⟩
instance : TZeroV PP 17 (.pointer none) := ⟨fun w => by kernel_rfl⟩
instance : TUnd PP 17 (.pointer 171) := ⟨by kernel_rfl⟩
instance : TShape PP 18 true 1 := ⟨fun w => by kernel_rfl, fun w => by kernel_rfl⟩
instance : TInfo PP 18 8 := ⟨fun w => ⟨Try.t18, by rw [PP_def]; exact Try.typeInfo18 w, rfl⟩⟩
instance : TZero PP 18 [.pointer none] := ⟨fun w => ⟨.agg #[.pointer none], by kernel_rfl, by kernel_rfl⟩⟩
instance : TZeroV PP 18 (.agg #[.pointer none]) := ⟨fun w => by kernel_rfl⟩
instance : TStruct PP 18 [.pointer none] [(0, 1)] := ⟨⟨_, by rw [PP_def]; exact Try.underlying18, fun w => by kernel_rfl⟩, fun w => ⟨.agg #[.pointer none], by kernel_rfl, by kernel_rfl⟩⟩
instance : TField PP 18 0 0 := ⟨fun b o w => by kernel_rfl⟩
instance : TPart PP 18 0 false 0 1 := part_lemma (ft := 17) (by rw [PP_def]; exact Try.underlying18) rfl rfl rfl
instance : TShape PP 19 true 1 := ⟨fun w => by kernel_rfl, fun w => by kernel_rfl⟩
instance : TInfo PP 19 8 := ⟨fun w => ⟨Try.t19, by rw [PP_def]; exact Try.typeInfo19 w, rfl⟩⟩
instance : TZero PP 19 [.pointer none] := ⟨fun w => ⟨.agg #[.pointer none], by kernel_rfl, by kernel_rfl⟩⟩
instance : TZeroV PP 19 (.agg #[.pointer none]) := ⟨fun w => by kernel_rfl⟩
instance : TStruct PP 19 [.pointer none] [(0, 1)] := ⟨⟨_, by rw [PP_def]; exact Try.underlying19, fun w => by kernel_rfl⟩, fun w => ⟨.agg #[.pointer none], by kernel_rfl, by kernel_rfl⟩⟩
instance : TField PP 19 0 0 := ⟨fun b o w => by kernel_rfl⟩
instance : TPart PP 19 0 false 0 1 := part_lemma (ft := 17) (by rw [PP_def]; exact Try.underlying19) rfl rfl rfl
instance : TShape PP 20 false 1 := ⟨fun w => by kernel_rfl, fun w => by kernel_rfl⟩
instance : TInfo PP 20 16 := ⟨fun w => ⟨Try.t20, by rw [PP_def]; exact Try.typeInfo20 w, rfl⟩⟩
instance : TZero PP 20 [.nilIface] := ⟨fun w => ⟨.nilIface, by kernel_rfl, by kernel_rfl⟩⟩
instance : TZeroV PP 20 (.nilIface) := ⟨fun w => by kernel_rfl⟩
instance : TShape PP 21 false 1 := ⟨fun w => by kernel_rfl, fun w => by kernel_rfl⟩
instance : TInfo PP 21 4 := ⟨fun w => ⟨Try.t21, by rw [PP_def]; exact Try.typeInfo21 w, rfl⟩⟩
instance : TZero PP 21 [.int .i32 0] := ⟨fun w => ⟨.int .i32 0, by kernel_rfl, by kernel_rfl⟩⟩
instance : TZeroV PP 21 (.int .i32 0) := ⟨fun w => by kernel_rfl⟩
instance : TUnd PP 21 (.int (.i32)) := ⟨by kernel_rfl⟩
instance : TShape PP 22 false 1 := ⟨fun w => by kernel_rfl, fun w => by kernel_rfl⟩
instance : TInfo PP 22 24 := ⟨fun w => ⟨Try.t22, by rw [PP_def]; exact Try.typeInfo22 w, rfl⟩⟩
instance : TZero PP 22 [.slice none 0 0] := ⟨fun w => ⟨.slice none 0 0, by kernel_rfl, by kernel_rfl⟩⟩
instance : TZeroV PP 22 (.slice none 0 0) := ⟨fun w => by kernel_rfl⟩
instance : TUnd PP 22 (.slice 66) := ⟨by kernel_rfl⟩
instance : TShape PP 23 false 1 := ⟨fun w => by kernel_rfl, fun w => by kernel_rfl⟩
instance : TInfo PP 23 8 := ⟨fun w => ⟨Try.t23, by rw [PP_def]; exact Try.typeInfo23 w, rfl⟩⟩
instance : TZero PP 23 [.nilFunc] := ⟨fun w => ⟨.nilFunc, by kernel_rfl, by kernel_rfl⟩⟩
instance : TZeroV PP 23 (.nilFunc) := ⟨fun w => by kernel_rfl⟩
instance : TShape PP 24 false 1 := ⟨fun w => by kernel_rfl, fun w => by kernel_rfl⟩
instance : TInfo PP 24 8 := ⟨fun w => ⟨Try.t24, by rw [PP_def]; exact Try.typeInfo24 w, rfl⟩⟩
instance : TZero PP 24 [.nilFunc] := ⟨fun w => ⟨.nilFunc, by kernel_rfl, by kernel_rfl⟩⟩
instance : TZeroV PP 24 (.nilFunc) := ⟨fun w => by kernel_rfl⟩
instance : TShape PP 25 false 1 := ⟨fun w => by kernel_rfl, fun w => by kernel_rfl⟩
instance : TInfo PP 25 8 := ⟨fun w => ⟨Try.t25, by rw [PP_def]; exact Try.typeInfo25 w, rfl⟩⟩
instance : TZero PP 25 [.map none] := ⟨fun w => ⟨.map none, by kernel_rfl, by kernel_rfl⟩⟩
instance : TZeroV PP 25 (.map none) := ⟨fun w => by kernel_rfl⟩
instance : TUnd PP 25 (.map 27 48) := ⟨by kernel_rfl⟩
instance : TShape PP 26 false 1 := ⟨fun w => by kernel_rfl, fun w => by kernel_rfl⟩
instance : TInfo PP 26 8 := ⟨fun w => ⟨Try.t26, by rw [PP_def]; exact Try.typeInfo26 w, rfl⟩⟩
instance : TZero PP 26 [.map none] := ⟨fun w => ⟨.map none, by kernel_rfl, by kernel_rfl⟩⟩
instance : TZeroV PP 26 (.map none) := ⟨fun w => by kernel_rfl⟩
instance : TUnd PP 26 (.map 27 48) := ⟨by kernel_rfl⟩
instance : TShape PP 27 false 1 := ⟨fun w => by kernel_rfl, fun w => by kernel_rfl⟩
instance : TInfo PP 27 8 := ⟨fun w => ⟨Try.t27, by rw [PP_def]; exact Try.typeInfo27 w, rfl⟩⟩
instance : TZero PP 27 [.int .i64 0] := ⟨fun w => ⟨.int .i64 0, by kernel_rfl, by kernel_rfl⟩⟩
instance : TZeroV PP 27 (.int .i64 0) := ⟨fun w => by kernel_rfl⟩
instance : TUnd PP 27 (.int (.i64)) := ⟨by kernel_rfl⟩
instance : TShape PP 28 true 3 := ⟨fun w => by kernel_rfl, fun w => by kernel_rfl⟩
instance : TInfo PP 28 24 := ⟨fun w => ⟨Try.t28, by rw [PP_def]; exact Try.typeInfo28 w, rfl⟩⟩
instance : TZero PP 28 [.int .i64 0, .int .i64 0, .int .i64 0] := ⟨fun w => ⟨.agg #[.int .i64 0, .int .i64 0, .int .i64 0], by kernel_rfl, by kernel_rfl⟩⟩
instance : TZeroV PP 28 (.agg #[.int .i64 0, .int .i64 0, .int .i64 0]) := ⟨fun w => by kernel_rfl⟩
instance : TStruct PP 28 [.int .i64 0, .int .i64 0, .int .i64 0] [(0, 1), (1, 1), (2, 1)] := ⟨⟨_, by rw [PP_def]; exact Try.underlying28, fun w => by kernel_rfl⟩, fun w => ⟨.agg #[.int .i64 0, .int .i64 0, .int .i64 0], by kernel_rfl, by kernel_rfl⟩⟩
instance : TField PP 28 0 0 := ⟨fun b o w => by kernel_rfl⟩
instance : TPart PP 28 0 false 0 1 := part_lemma (ft := 27) (by rw [PP_def]; exact Try.underlying28) rfl rfl rfl
instance : TField PP 28 1 1 := ⟨fun b o w => by kernel_rfl⟩
instance : TPart PP 28 1 false 1 1 := part_lemma (ft := 27) (by rw [PP_def]; exact Try.underlying28) rfl rfl rfl
instance : TField PP 28 2 2 := ⟨fun b o w => by kernel_rfl⟩
instance : TPart PP 28 2 false 2 1 := part_lemma (ft := 3) (by rw [PP_def]; exact Try.underlying28) rfl rfl rfl
instance : TShape PP 29 true 3 := ⟨fun w => by kernel_rfl, fun w => by kernel_rfl⟩
instance : TInfo PP 29 24 := ⟨fun w => ⟨Try.t29, by rw [PP_def]; exact Try.typeInfo29 w, rfl⟩⟩
instance : TZero PP 29 [.int .i64 0, .int .i64 0, .int .i64 0] := ⟨fun w => ⟨.agg #[.int .i64 0, .int .i64 0, .int .i64 0], by kernel_rfl, by kernel_rfl⟩⟩
instance : TZeroV PP 29 (.agg #[.int .i64 0, .int .i64 0, .int .i64 0]) := ⟨fun w => by kernel_rfl⟩
instance : TStruct PP 29 [.int .i64 0, .int .i64 0, .int .i64 0] [(0, 1), (1, 1), (2, 1)] := ⟨⟨_, by rw [PP_def]; exact Try.underlying29, fun w => by kernel_rfl⟩, fun w => ⟨.agg #[.int .i64 0, .int .i64 0, .int .i64 0], by kernel_rfl, by kernel_rfl⟩⟩
instance : TField PP 29 0 0 := ⟨fun b o w => by kernel_rfl⟩
instance : TPart PP 29 0 false 0 1 := part_lemma (ft := 27) (by rw [PP_def]; exact Try.underlying29) rfl rfl rfl
instance : TField PP 29 1 1 := ⟨fun b o w => by kernel_rfl⟩
instance : TPart PP 29 1 false 1 1 := part_lemma (ft := 27) (by rw [PP_def]; exact Try.underlying29) rfl rfl rfl
instance : TField PP 29 2 2 := ⟨fun b o w => by kernel_rfl⟩
instance : TPart PP 29 2 false 2 1 := part_lemma (ft := 3) (by rw [PP_def]; exact Try.underlying29) rfl rfl rfl
instance : TShape PP 30 true 4 := ⟨fun w => by kernel_rfl, fun w => by kernel_rfl⟩
instance : TInfo PP 30 32 := ⟨fun w => ⟨Try.t30, by rw [PP_def]; exact Try.typeInfo30 w, rfl⟩⟩
instance : TZero PP 30 [.int .i64 0, .int .i64 0, .int .i64 0, .int .i64 0] := ⟨fun w => ⟨.agg #[.int .i64 0, .int .i64 0, .int .i64 0, .int .i64 0], by kernel_rfl, by kernel_rfl⟩⟩
instance : TZeroV PP 30 (.agg #[.int .i64 0, .int .i64 0, .int .i64 0, .int .i64 0]) := ⟨fun w => by kernel_rfl⟩
instance : TStruct PP 30 [.int .i64 0, .int .i64 0, .int .i64 0, .int .i64 0] [(0, 3), (3, 1)] := ⟨⟨_, by rw [PP_def]; exact Try.underlying30, fun w => by kernel_rfl⟩, fun w => ⟨.agg #[.int .i64 0, .int .i64 0, .int .i64 0, .int .i64 0], by kernel_rfl, by kernel_rfl⟩⟩
instance : TField PP 30 0 0 := ⟨fun b o w => by kernel_rfl⟩
instance : TPart PP 30 0 true 0 3 := part_lemma (ft := 29) (by rw [PP_def]; exact Try.underlying30) rfl rfl rfl
instance : TField PP 30 1 3 := ⟨fun b o w => by kernel_rfl⟩
instance : TPart PP 30 1 false 3 1 := part_lemma (ft := 27) (by rw [PP_def]; exact Try.underlying30) rfl rfl rfl
instance : TShape PP 31 true 4 := ⟨fun w => by kernel_rfl, fun w => by kernel_rfl⟩
instance : TInfo PP 31 32 := ⟨fun w => ⟨Try.t31, by rw [PP_def]; exact Try.typeInfo31 w, rfl⟩⟩
instance : TZero PP 31 [.int .i64 0, .int .i64 0, .int .i64 0, .int .i64 0] := ⟨fun w => ⟨.agg #[.int .i64 0, .int .i64 0, .int .i64 0, .int .i64 0], by kernel_rfl, by kernel_rfl⟩⟩
instance : TZeroV PP 31 (.agg #[.int .i64 0, .int .i64 0, .int .i64 0, .int .i64 0]) := ⟨fun w => by kernel_rfl⟩
instance : TStruct PP 31 [.int .i64 0, .int .i64 0, .int .i64 0, .int .i64 0] [(0, 3), (3, 1)] := ⟨⟨_, by rw [PP_def]; exact Try.underlying31, fun w => by kernel_rfl⟩, fun w => ⟨.agg #[.int .i64 0, .int .i64 0, .int .i64 0, .int .i64 0], by kernel_rfl, by kernel_rfl⟩⟩
instance : TField PP 31 0 0 := ⟨fun b o w => by kernel_rfl⟩
instance : TPart PP 31 0 true 0 3 := part_lemma (ft := 29) (by rw [PP_def]; exact Try.underlying31) rfl rfl rfl
instance : TField PP 31 1 3 := ⟨fun b o w => by kernel_rfl⟩
instance : TPart PP 31 1 false 3 1 := part_lemma (ft := 27) (by rw [PP_def]; exact Try.underlying31) rfl rfl rfl
instance : TShape PP 32 false 1 := ⟨fun w => by kernel_rfl, fun w => by kernel_rfl⟩
instance : TInfo PP 32 24 := ⟨fun w => ⟨Try.t32, by rw [PP_def]; exact Try.typeInfo32 w, rfl⟩⟩
instance : TZero PP 32 [.slice none 0 0] := ⟨fun w => ⟨.slice none 0 0, by kernel_rfl, by kernel_rfl⟩⟩
instance : TZeroV PP 32 (.slice none 0 0) := ⟨fun w => by kernel_rfl⟩
instance : TUnd PP 32 (.slice 3) := ⟨by kernel_rfl⟩
instance : TShape PP 33 true 3 := ⟨fun w => by kernel_rfl, fun w => by kernel_rfl⟩
instance : TInfo PP 33 72 := ⟨fun w => ⟨Try.t33, by rw [PP_def]; exact Try.typeInfo33 w, rfl⟩⟩
instance : TZero PP 33 [.slice none 0 0, .slice none 0 0, .slice none 0 0] := ⟨fun w => ⟨.agg #[.slice none 0 0, .slice none 0 0, .slice none 0 0], by kernel_rfl, by kernel_rfl⟩⟩
instance : TZeroV PP 33 (.agg #[.slice none 0 0, .slice none 0 0, .slice none 0 0]) := ⟨fun w => by kernel_rfl⟩
instance : TStruct PP 33 [.slice none 0 0, .slice none 0 0, .slice none 0 0] [(0, 1), (1, 1), (2, 1)] := ⟨⟨_, by rw [PP_def]; exact Try.underlying33, fun w => by kernel_rfl⟩, fun w => ⟨.agg #[.slice none 0 0, .slice none 0 0, .slice none 0 0], by kernel_rfl, by kernel_rfl⟩⟩
instance : TField PP 33 0 0 := ⟨fun b o w => by kernel_rfl⟩
instance : TPart PP 33 0 false 0 1 := part_lemma (ft := 32) (by rw [PP_def]; exact Try.underlying33) rfl rfl rfl
instance : TField PP 33 1 1 := ⟨fun b o w => by kernel_rfl⟩
instance : TPart PP 33 1 false 1 1 := part_lemma (ft := 32) (by rw [PP_def]; exact Try.underlying33) rfl rfl rfl
instance : TField PP 33 2 2 := ⟨fun b o w => by kernel_rfl⟩
instance : TPart PP 33 2 false 2 1 := part_lemma (ft := 32) (by rw [PP_def]; exact Try.underlying33) rfl rfl rfl
instance : TShape PP 34 true 3 := ⟨fun w => by kernel_rfl, fun w => by kernel_rfl⟩
instance : TInfo PP 34 72 := ⟨fun w => ⟨Try.t34, by rw [PP_def]; exact Try.typeInfo34 w, rfl⟩⟩
instance : TZero PP 34 [.slice none 0 0, .slice none 0 0, .slice none 0 0] := ⟨fun w => ⟨.agg #[.slice none 0 0, .slice none 0 0, .slice none 0 0], by kernel_rfl, by kernel_rfl⟩⟩
instance : TZeroV PP 34 (.agg #[.slice none 0 0, .slice none 0 0, .slice none 0 0]) := ⟨fun w => by kernel_rfl⟩
instance : TStruct PP 34 [.slice none 0 0, .slice none 0 0, .slice none 0 0] [(0, 1), (1, 1), (2, 1)] := ⟨⟨_, by rw [PP_def]; exact Try.underlying34, fun w => by kernel_rfl⟩, fun w => ⟨.agg #[.slice none 0 0, .slice none 0 0, .slice none 0 0], by kernel_rfl, by kernel_rfl⟩⟩
instance : TField PP 34 0 0 := ⟨fun b o w => by kernel_rfl⟩
instance : TPart PP 34 0 false 0 1 := part_lemma (ft := 32) (by rw [PP_def]; exact Try.underlying34) rfl rfl rfl
instance : TField PP 34 1 1 := ⟨fun b o w => by kernel_rfl⟩
instance : TPart PP 34 1 false 1 1 := part_lemma (ft := 32) (by rw [PP_def]; exact Try.underlying34) rfl rfl rfl
instance : TField PP 34 2 2 := ⟨fun b o w => by kernel_rfl⟩
instance : TPart PP 34 2 false 2 1 := part_lemma (ft := 32) (by rw [PP_def]; exact Try.underlying34) rfl rfl rfl
instance : TShape PP 35 true 8 := ⟨fun w => by kernel_rfl, fun w => by kernel_rfl⟩
instance : TInfo PP 35 112 := ⟨fun w => ⟨Try.t35, by rw [PP_def]; exact Try.typeInfo35 w, rfl⟩⟩
instance : TZero PP 35 [.map none, .int .i64 0, .int .i64 0, .int .i64 0, .int .i64 0, .slice none 0 0, .slice none 0 0, .slice none 0 0] := ⟨fun w => ⟨.agg #[.map none, .int .i64 0, .int .i64 0, .int .i64 0, .int .i64 0, .slice none 0 0, .slice none 0 0, .slice none 0 0], by kernel_rfl, by kernel_rfl⟩⟩
instance : TZeroV PP 35 (.agg #[.map none, .int .i64 0, .int .i64 0, .int .i64 0, .int .i64 0, .slice none 0 0, .slice none 0 0, .slice none 0 0]) := ⟨fun w => by kernel_rfl⟩
instance : TStruct PP 35 [.map none, .int .i64 0, .int .i64 0, .int .i64 0, .int .i64 0, .slice none 0 0, .slice none 0 0, .slice none 0 0] [(0, 1), (1, 4), (5, 3)] := ⟨⟨_, by rw [PP_def]; exact Try.underlying35, fun w => by kernel_rfl⟩, fun w => ⟨.agg #[.map none, .int .i64 0, .int .i64 0, .int .i64 0, .int .i64 0, .slice none 0 0, .slice none 0 0, .slice none 0 0], by kernel_rfl, by kernel_rfl⟩⟩
instance : TField PP 35 0 0 := ⟨fun b o w => by kernel_rfl⟩
instance : TPart PP 35 0 false 0 1 := part_lemma (ft := 26) (by rw [PP_def]; exact Try.underlying35) rfl rfl rfl
instance : TField PP 35 1 1 := ⟨fun b o w => by kernel_rfl⟩
instance : TPart PP 35 1 true 1 4 := part_lemma (ft := 31) (by rw [PP_def]; exact Try.underlying35) rfl rfl rfl
instance : TField PP 35 2 5 := ⟨fun b o w => by kernel_rfl⟩
instance : TPart PP 35 2 true 5 3 := part_lemma (ft := 34) (by rw [PP_def]; exact Try.underlying35) rfl rfl rfl
instance : TShape PP 36 true 8 := ⟨fun w => by kernel_rfl, fun w => by kernel_rfl⟩
instance : TInfo PP 36 112 := ⟨fun w => ⟨Try.t36, by rw [PP_def]; exact Try.typeInfo36 w, rfl⟩⟩
instance : TZero PP 36 [.map none, .int .i64 0, .int .i64 0, .int .i64 0, .int .i64 0, .slice none 0 0, .slice none 0 0, .slice none 0 0] := ⟨fun w => ⟨.agg #[.map none, .int .i64 0, .int .i64 0, .int .i64 0, .int .i64 0, .slice none 0 0, .slice none 0 0, .slice none 0 0], by kernel_rfl, by kernel_rfl⟩⟩
instance : TZeroV PP 36 (.agg #[.map none, .int .i64 0, .int .i64 0, .int .i64 0, .int .i64 0, .slice none 0 0, .slice none 0 0, .slice none 0 0]) := ⟨fun w => by kernel_rfl⟩
instance : TStruct PP 36 [.map none, .int .i64 0, .int .i64 0, .int .i64 0, .int .i64 0, .slice none 0 0, .slice none 0 0, .slice none 0 0] [(0, 1), (1, 4), (5, 3)] := ⟨⟨_, by rw [PP_def]; exact Try.underlying36, fun w => by kernel_rfl⟩, fun w => ⟨.agg #[.map none, .int .i64 0, .int .i64 0, .int .i64 0, .int .i64 0, .slice none 0 0, .slice none 0 0, .slice none 0 0], by kernel_rfl, by kernel_rfl⟩⟩
instance : TField PP 36 0 0 := ⟨fun b o w => by kernel_rfl⟩
instance : TPart PP 36 0 false 0 1 := part_lemma (ft := 26) (by rw [PP_def]; exact Try.underlying36) rfl rfl rfl
instance : TField PP 36 1 1 := ⟨fun b o w => by kernel_rfl⟩
instance : TPart PP 36 1 true 1 4 := part_lemma (ft := 31) (by rw [PP_def]; exact Try.underlying36) rfl rfl rfl
instance : TField PP 36 2 5 := ⟨fun b o w => by kernel_rfl⟩
instance : TPart PP 36 2 true 5 3 := part_lemma (ft := 34) (by rw [PP_def]; exact Try.underlying36) rfl rfl rfl
instance : TShape PP 38 false 1 := ⟨fun w => by kernel_rfl, fun w => by kernel_rfl⟩
instance : TInfo PP 38 8 := ⟨fun w => ⟨Try.t38, by rw [PP_def]; exact Try.typeInfo38 w, rfl⟩⟩
instance : TZero PP 38 [.nilFunc] := ⟨fun w => ⟨.nilFunc, by kernel_rfl, by kernel_rfl⟩⟩
instance : TZeroV PP 38 (.nilFunc) := ⟨fun w => by kernel_rfl⟩
instance : TShape PP 39 false 1 := ⟨fun w => by kernel_rfl, fun w => by kernel_rfl⟩
instance : TInfo PP 39 8 := ⟨fun w => ⟨Try.t39, by rw [PP_def]; exact Try.typeInfo39 w, rfl⟩⟩
instance : TZero PP 39 [.nilFunc] := ⟨fun w => ⟨.nilFunc, by kernel_rfl, by kernel_rfl⟩⟩
instance : TZeroV PP 39 (.nilFunc) := ⟨fun w => by kernel_rfl⟩
instance : TShape PP 40 false 1 := ⟨fun w => by kernel_rfl, fun w => by kernel_rfl⟩
instance : TInfo PP 40 24 := ⟨fun w => ⟨Try.t40, by rw [PP_def]; exact Try.typeInfo40 w, rfl⟩⟩
instance : TZero PP 40 [.slice none 0 0] := ⟨fun w => ⟨.slice none 0 0, by kernel_rfl, by kernel_rfl⟩⟩
instance : TZeroV PP 40 (.slice none 0 0) := ⟨fun w => by kernel_rfl⟩
instance : TUnd PP 40 (.slice 55) := ⟨by kernel_rfl⟩
instance : TShape PP 41 false 1 := ⟨fun w => by kernel_rfl, fun w => by kernel_rfl⟩
instance : TInfo PP 41 24 := ⟨fun w => ⟨Try.t41, by rw [PP_def]; exact Try.typeInfo41 w, rfl⟩⟩
instance : TZero PP 41 [.slice none 0 0] := ⟨fun w => ⟨.slice none 0 0, by kernel_rfl, by kernel_rfl⟩⟩
instance : TZeroV PP 41 (.slice none 0 0) := ⟨fun w => by kernel_rfl⟩
instance : TUnd PP 41 (.slice 2) := ⟨by kernel_rfl⟩
instance : TShape PP 42 false 1 := ⟨fun w => by kernel_rfl, fun w => by kernel_rfl⟩
instance : TInfo PP 42 24 := ⟨fun w => ⟨Try.t42, by rw [PP_def]; exact Try.typeInfo42 w, rfl⟩⟩
instance : TZero PP 42 [.slice none 0 0] := ⟨fun w => ⟨.slice none 0 0, by kernel_rfl, by kernel_rfl⟩⟩
instance : TZeroV PP 42 (.slice none 0 0) := ⟨fun w => by kernel_rfl⟩
instance : TUnd PP 42 (.slice 81) := ⟨by kernel_rfl⟩
instance : TShape PP 44 false 1 := ⟨fun w => by kernel_rfl, fun w => by kernel_rfl⟩
instance : TInfo PP 44 8 := ⟨fun w => ⟨Try.t44, by rw [PP_def]; exact Try.typeInfo44 w, rfl⟩⟩
instance : TZero PP 44 [.nilFunc] := ⟨fun w => ⟨.nilFunc, by kernel_rfl, by kernel_rfl⟩⟩
instance : TZeroV PP 44 (.nilFunc) := ⟨fun w => by kernel_rfl⟩
instance : TShape PP 45 false 1 := ⟨fun w => by kernel_rfl, fun w => by kernel_rfl⟩
instance : TInfo PP 45 8 := ⟨fun w => ⟨Try.t45, by rw [PP_def]; exact Try.typeInfo45 w, rfl⟩⟩
instance : TZero PP 45 [.pointer none] := ⟨fun w => ⟨.pointer none, by kernel_rfl, by kernel_rfl⟩⟩
instance : TZeroV PP 45 (.pointer none) := ⟨fun w => by kernel_rfl⟩
instance : TUnd PP 45 (.pointer 101) := ⟨by kernel_rfl⟩
instance : TShape PP 46 false 1 := ⟨fun w => by kernel_rfl, fun w => by kernel_rfl⟩
instance : TInfo PP 46 4 := ⟨fun w => ⟨Try.t46, by rw [PP_def]; exact Try.typeInfo46 w, rfl⟩⟩
instance : TZero PP 46 [.int .u32 0] := ⟨fun w => ⟨.int .u32 0, by kernel_rfl, by kernel_rfl⟩⟩
instance : TZeroV PP 46 (.int .u32 0) := ⟨fun w => by kernel_rfl⟩
instance : TUnd PP 46 (.int (.u32)) := ⟨by kernel_rfl⟩
instance : TShape PP 47 true 3 := ⟨fun w => by kernel_rfl, fun w => by kernel_rfl⟩
instance : TInfo PP 47 16 := ⟨fun w => ⟨Try.t47, by rw [PP_def]; exact Try.typeInfo47 w, rfl⟩⟩
instance : TZero PP 47 [.int .i64 0, .int .u32 0, .int .u32 0] := ⟨fun w => ⟨.agg #[.int .i64 0, .int .u32 0, .int .u32 0], by kernel_rfl, by kernel_rfl⟩⟩
instance : TZeroV PP 47 (.agg #[.int .i64 0, .int .u32 0, .int .u32 0]) := ⟨fun w => by kernel_rfl⟩
instance : TStruct PP 47 [.int .i64 0, .int .u32 0, .int .u32 0] [(0, 1), (1, 1), (2, 1)] := ⟨⟨_, by rw [PP_def]; exact Try.underlying47, fun w => by kernel_rfl⟩, fun w => ⟨.agg #[.int .i64 0, .int .u32 0, .int .u32 0], by kernel_rfl, by kernel_rfl⟩⟩
instance : TField PP 47 0 0 := ⟨fun b o w => by kernel_rfl⟩
instance : TPart PP 47 0 false 0 1 := part_lemma (ft := 2) (by rw [PP_def]; exact Try.underlying47) rfl rfl rfl
instance : TField PP 47 1 1 := ⟨fun b o w => by kernel_rfl⟩
instance : TPart PP 47 1 false 1 1 := part_lemma (ft := 46) (by rw [PP_def]; exact Try.underlying47) rfl rfl rfl
instance : TField PP 47 2 2 := ⟨fun b o w => by kernel_rfl⟩
instance : TPart PP 47 2 false 2 1 := part_lemma (ft := 46) (by rw [PP_def]; exact Try.underlying47) rfl rfl rfl
instance : TShape PP 48 true 3 := ⟨fun w => by kernel_rfl, fun w => by kernel_rfl⟩
instance : TInfo PP 48 16 := ⟨fun w => ⟨Try.t48, by rw [PP_def]; exact Try.typeInfo48 w, rfl⟩⟩
instance : TZero PP 48 [.int .i64 0, .int .u32 0, .int .u32 0] := ⟨fun w => ⟨.agg #[.int .i64 0, .int .u32 0, .int .u32 0], by kernel_rfl, by kernel_rfl⟩⟩
instance : TZeroV PP 48 (.agg #[.int .i64 0, .int .u32 0, .int .u32 0]) := ⟨fun w => by kernel_rfl⟩
instance : TStruct PP 48 [.int .i64 0, .int .u32 0, .int .u32 0] [(0, 1), (1, 1), (2, 1)] := ⟨⟨_, by rw [PP_def]; exact Try.underlying48, fun w => by kernel_rfl⟩, fun w => ⟨.agg #[.int .i64 0, .int .u32 0, .int .u32 0], by kernel_rfl, by kernel_rfl⟩⟩
instance : TField PP 48 0 0 := ⟨fun b o w => by kernel_rfl⟩
instance : TPart PP 48 0 false 0 1 := part_lemma (ft := 2) (by rw [PP_def]; exact Try.underlying48) rfl rfl rfl
instance : TField PP 48 1 1 := ⟨fun b o w => by kernel_rfl⟩
instance : TPart PP 48 1 false 1 1 := part_lemma (ft := 46) (by rw [PP_def]; exact Try.underlying48) rfl rfl rfl
instance : TField PP 48 2 2 := ⟨fun b o w => by kernel_rfl⟩
instance : TPart PP 48 2 false 2 1 := part_lemma (ft := 46) (by rw [PP_def]; exact Try.underlying48) rfl rfl rfl
instance : TShape PP 49 false 1 := ⟨fun w => by kernel_rfl, fun w => by kernel_rfl⟩
instance : TInfo PP 49 8 := ⟨fun w => ⟨Try.t49, by rw [PP_def]; exact Try.typeInfo49 w, rfl⟩⟩
instance : TZero PP 49 [.int .i64 0] := ⟨fun w => ⟨.int .i64 0, by kernel_rfl, by kernel_rfl⟩⟩
instance : TZeroV PP 49 (.int .i64 0) := ⟨fun w => by kernel_rfl⟩
instance : TUnd PP 49 (.int (.i64)) := ⟨by kernel_rfl⟩
instance : TShape PP 51 false 1 := ⟨fun w => by kernel_rfl, fun w => by kernel_rfl⟩
instance : TInfo PP 51 8 := ⟨fun w => ⟨Try.t51, by rw [PP_def]; exact Try.typeInfo51 w, rfl⟩⟩
instance : TZero PP 51 [.nilFunc] := ⟨fun w => ⟨.nilFunc, by kernel_rfl, by kernel_rfl⟩⟩
instance : TZeroV PP 51 (.nilFunc) := ⟨fun w => by kernel_rfl⟩
instance : TShape PP 52 false 1 := ⟨fun w => by kernel_rfl, fun w => by kernel_rfl⟩
instance : TInfo PP 52 8 := ⟨fun w => ⟨Try.t52, by rw [PP_def]; exact Try.typeInfo52 w, rfl⟩⟩
instance : TZero PP 52 [.nilFunc] := ⟨fun w => ⟨.nilFunc, by kernel_rfl, by kernel_rfl⟩⟩
instance : TZeroV PP 52 (.nilFunc) := ⟨fun w => by kernel_rfl⟩
instance : TShape PP 53 false 1 := ⟨fun w => by kernel_rfl, fun w => by kernel_rfl⟩
instance : TInfo PP 53 8 := ⟨fun w => ⟨Try.t53, by rw [PP_def]; exact Try.typeInfo53 w, rfl⟩⟩
instance : TZero PP 53 [.nilFunc] := ⟨fun w => ⟨.nilFunc, by kernel_rfl, by kernel_rfl⟩⟩
instance : TZeroV PP 53 (.nilFunc) := ⟨fun w => by kernel_rfl⟩
instance : TShape PP 54 false 1 := ⟨fun w => by kernel_rfl, fun w => by kernel_rfl⟩
instance : TInfo PP 54 24 := ⟨fun w => ⟨Try.t54, by rw [PP_def]; exact Try.typeInfo54 w, rfl⟩⟩
instance : TZero PP 54 [.slice none 0 0] := ⟨fun w => ⟨.slice none 0 0, by kernel_rfl, by kernel_rfl⟩⟩
instance : TZeroV PP 54 (.slice none 0 0) := ⟨fun w => by kernel_rfl⟩
instance : TUnd PP 54 (.slice 41) := ⟨by kernel_rfl⟩
instance : TShape PP 55 true 2 := ⟨fun w => by kernel_rfl, fun w => by kernel_rfl⟩
instance : TInfo PP 55 2 := ⟨fun w => ⟨Try.t55, by rw [PP_def]; exact Try.typeInfo55 w, rfl⟩⟩
instance : TZero PP 55 [.int .u8 0, .int .u8 0] := ⟨fun w => ⟨.agg #[.int .u8 0, .int .u8 0], by kernel_rfl, by kernel_rfl⟩⟩
instance : TZeroV PP 55 (.agg #[.int .u8 0, .int .u8 0]) := ⟨fun w => by kernel_rfl⟩
instance : TUnd PP 55 (.array 2 5) := ⟨by kernel_rfl⟩
instance : TShape PP 56 false 1 := ⟨fun w => by kernel_rfl, fun w => by kernel_rfl⟩
instance : TInfo PP 56 8 := ⟨fun w => ⟨Try.t56, by rw [PP_def]; exact Try.typeInfo56 w, rfl⟩⟩
instance : TZero PP 56 [.nilFunc] := ⟨fun w => ⟨.nilFunc, by kernel_rfl, by kernel_rfl⟩⟩
instance : TZeroV PP 56 (.nilFunc) := ⟨fun w => by kernel_rfl⟩
instance : TShape PP 58 false 1 := ⟨fun w => by kernel_rfl, fun w => by kernel_rfl⟩
instance : TInfo PP 58 8 := ⟨fun w => ⟨Try.t58, by rw [PP_def]; exact Try.typeInfo58 w, rfl⟩⟩
instance : TZero PP 58 [.nilFunc] := ⟨fun w => ⟨.nilFunc, by kernel_rfl, by kernel_rfl⟩⟩
instance : TZeroV PP 58 (.nilFunc) := ⟨fun w => by kernel_rfl⟩
instance : TShape PP 59 false 1 := ⟨fun w => by kernel_rfl, fun w => by kernel_rfl⟩
instance : TInfo PP 59 8 := ⟨fun w => ⟨Try.t59, by rw [PP_def]; exact Try.typeInfo59 w, rfl⟩⟩
instance : TZero PP 59 [.nilFunc] := ⟨fun w => ⟨.nilFunc, by kernel_rfl, by kernel_rfl⟩⟩
instance : TZeroV PP 59 (.nilFunc) := ⟨fun w => by kernel_rfl⟩
instance : TShape PP 60 false 1 := ⟨fun w => by kernel_rfl, fun w => by kernel_rfl⟩
instance : TInfo PP 60 8 := ⟨fun w => ⟨Try.t60, by rw [PP_def]; exact Try.typeInfo60 w, rfl⟩⟩
instance : TZero PP 60 [.nilFunc] := ⟨fun w => ⟨.nilFunc, by kernel_rfl, by kernel_rfl⟩⟩
instance : TZeroV PP 60 (.nilFunc) := ⟨fun w => by kernel_rfl⟩
instance : TShape PP 61 false 1 := ⟨fun w => by kernel_rfl, fun w => by kernel_rfl⟩
instance : TInfo PP 61 8 := ⟨fun w => ⟨Try.t61, by rw [PP_def]; exact Try.typeInfo61 w, rfl⟩⟩
instance : TZero PP 61 [.nilFunc] := ⟨fun w => ⟨.nilFunc, by kernel_rfl, by kernel_rfl⟩⟩
instance : TZeroV PP 61 (.nilFunc) := ⟨fun w => by kernel_rfl⟩
instance : TShape PP 62 false 1 := ⟨fun w => by kernel_rfl, fun w => by kernel_rfl⟩
instance : TInfo PP 62 8 := ⟨fun w => ⟨Try.t62, by rw [PP_def]; exact Try.typeInfo62 w, rfl⟩⟩
instance : TZero PP 62 [.map none] := ⟨fun w => ⟨.map none, by kernel_rfl, by kernel_rfl⟩⟩
instance : TZeroV PP 62 (.map none) := ⟨fun w => by kernel_rfl⟩
instance : TUnd PP 62 (.map 2 2) := ⟨by kernel_rfl⟩
instance : TShape PP 63 false 1 := ⟨fun w => by kernel_rfl, fun w => by kernel_rfl⟩
instance : TInfo PP 63 8 := ⟨fun w => ⟨Try.t63, by rw [PP_def]; exact Try.typeInfo63 w, rfl⟩⟩
instance : TZero PP 63 [.nilFunc] := ⟨fun w => ⟨.nilFunc, by kernel_rfl, by kernel_rfl⟩⟩
instance : TZeroV PP 63 (.nilFunc) := ⟨fun w => by kernel_rfl⟩
instance : TShape PP 64 false 1 := ⟨fun w => by kernel_rfl, fun w => by kernel_rfl⟩
instance : TInfo PP 64 8 := ⟨fun w => ⟨Try.t64, by rw [PP_def]; exact Try.typeInfo64 w, rfl⟩⟩
instance : TZero PP 64 [.nilFunc] := ⟨fun w => ⟨.nilFunc, by kernel_rfl, by kernel_rfl⟩⟩
instance : TZeroV PP 64 (.nilFunc) := ⟨fun w => by kernel_rfl⟩
instance : TShape PP 65 true 3 := ⟨fun w => by kernel_rfl, fun w => by kernel_rfl⟩
instance : TInfo PP 65 24 := ⟨fun w => ⟨Try.t65, by rw [PP_def]; exact Try.typeInfo65 w, rfl⟩⟩
instance : TZero PP 65 [.int .u8 0, .int .i64 0, .int .i64 0] := ⟨fun w => ⟨.agg #[.int .u8 0, .int .i64 0, .int .i64 0], by kernel_rfl, by kernel_rfl⟩⟩
instance : TZeroV PP 65 (.agg #[.int .u8 0, .int .i64 0, .int .i64 0]) := ⟨fun w => by kernel_rfl⟩
instance : TStruct PP 65 [.int .u8 0, .int .i64 0, .int .i64 0] [(0, 1), (1, 1), (2, 1)] := ⟨⟨_, by rw [PP_def]; exact Try.underlying65, fun w => by kernel_rfl⟩, fun w => ⟨.agg #[.int .u8 0, .int .i64 0, .int .i64 0], by kernel_rfl, by kernel_rfl⟩⟩
instance : TField PP 65 0 0 := ⟨fun b o w => by kernel_rfl⟩
instance : TPart PP 65 0 false 0 1 := part_lemma (ft := 5) (by rw [PP_def]; exact Try.underlying65) rfl rfl rfl
instance : TField PP 65 1 1 := ⟨fun b o w => by kernel_rfl⟩
instance : TPart PP 65 1 false 1 1 := part_lemma (ft := 2) (by rw [PP_def]; exact Try.underlying65) rfl rfl rfl
instance : TField PP 65 2 2 := ⟨fun b o w => by kernel_rfl⟩
instance : TPart PP 65 2 false 2 1 := part_lemma (ft := 2) (by rw [PP_def]; exact Try.underlying65) rfl rfl rfl
instance : TShape PP 66 true 3 := ⟨fun w => by kernel_rfl, fun w => by kernel_rfl⟩
instance : TInfo PP 66 24 := ⟨fun w => ⟨Try.t66, by rw [PP_def]; exact Try.typeInfo66 w, rfl⟩⟩
instance : TZero PP 66 [.int .u8 0, .int .i64 0, .int .i64 0] := ⟨fun w => ⟨.agg #[.int .u8 0, .int .i64 0, .int .i64 0], by kernel_rfl, by kernel_rfl⟩⟩
instance : TZeroV PP 66 (.agg #[.int .u8 0, .int .i64 0, .int .i64 0]) := ⟨fun w => by kernel_rfl⟩
instance : TStruct PP 66 [.int .u8 0, .int .i64 0, .int .i64 0] [(0, 1), (1, 1), (2, 1)] := ⟨⟨_, by rw [PP_def]; exact Try.underlying66, fun w => by kernel_rfl⟩, fun w => ⟨.agg #[.int .u8 0, .int .i64 0, .int .i64 0], by kernel_rfl, by kernel_rfl⟩⟩
instance : TField PP 66 0 0 := ⟨fun b o w => by kernel_rfl⟩
instance : TPart PP 66 0 false 0 1 := part_lemma (ft := 5) (by rw [PP_def]; exact Try.underlying66) rfl rfl rfl
instance : TField PP 66 1 1 := ⟨fun b o w => by kernel_rfl⟩
instance : TPart PP 66 1 false 1 1 := part_lemma (ft := 2) (by rw [PP_def]; exact Try.underlying66) rfl rfl rfl
instance : TField PP 66 2 2 := ⟨fun b o w => by kernel_rfl⟩
instance : TPart PP 66 2 false 2 1 := part_lemma (ft := 2) (by rw [PP_def]; exact Try.underlying66) rfl rfl rfl
instance : TShape PP 67 false 1 := ⟨fun w => by kernel_rfl, fun w => by kernel_rfl⟩
instance : TInfo PP 67 8 := ⟨fun w => ⟨Try.t67, by rw [PP_def]; exact Try.typeInfo67 w, rfl⟩⟩
instance : TZero PP 67 [.nilFunc] := ⟨fun w => ⟨.nilFunc, by kernel_rfl, by kernel_rfl⟩⟩
instance : TZeroV PP 67 (.nilFunc) := ⟨fun w => by kernel_rfl⟩
instance : TShape PP 68 false 1 := ⟨fun w => by kernel_rfl, fun w => by kernel_rfl⟩
instance : TInfo PP 68 8 := ⟨fun w => ⟨Try.t68, by rw [PP_def]; exact Try.typeInfo68 w, rfl⟩⟩
instance : TZero PP 68 [.nilFunc] := ⟨fun w => ⟨.nilFunc, by kernel_rfl, by kernel_rfl⟩⟩
instance : TZeroV PP 68 (.nilFunc) := ⟨fun w => by kernel_rfl⟩
instance : TShape PP 69 false 1 := ⟨fun w => by kernel_rfl, fun w => by kernel_rfl⟩
instance : TInfo PP 69 24 := ⟨fun w => ⟨Try.t69, by rw [PP_def]; exact Try.typeInfo69 w, rfl⟩⟩
instance : TZero PP 69 [.slice none 0 0] := ⟨fun w => ⟨.slice none 0 0, by kernel_rfl, by kernel_rfl⟩⟩
instance : TZeroV PP 69 (.slice none 0 0) := ⟨fun w => by kernel_rfl⟩
instance : TUnd PP 69 (.slice 27) := ⟨by kernel_rfl⟩
instance : TShape PP 70 false 1 := ⟨fun w => by kernel_rfl, fun w => by kernel_rfl⟩
instance : TInfo PP 70 8 := ⟨fun w => ⟨Try.t70, by rw [PP_def]; exact Try.typeInfo70 w, rfl⟩⟩
instance : TZero PP 70 [.nilFunc] := ⟨fun w => ⟨.nilFunc, by kernel_rfl, by kernel_rfl⟩⟩
instance : TZeroV PP 70 (.nilFunc) := ⟨fun w => by kernel_rfl⟩
instance : TShape PP 71 false 1 := ⟨fun w => by kernel_rfl, fun w => by kernel_rfl⟩
instance : TInfo PP 71 8 := ⟨fun w => ⟨Try.t71, by rw [PP_def]; exact Try.typeInfo71 w, rfl⟩⟩
instance : TZero PP 71 [.nilFunc] := ⟨fun w => ⟨.nilFunc, by kernel_rfl, by kernel_rfl⟩⟩
instance : TZeroV PP 71 (.nilFunc) := ⟨fun w => by kernel_rfl⟩
instance : TShape PP 72 false 1 := ⟨fun w => by kernel_rfl, fun w => by kernel_rfl⟩
instance : TInfo PP 72 8 := ⟨fun w => ⟨Try.t72, by rw [PP_def]; exact Try.typeInfo72 w, rfl⟩⟩
instance : TZero PP 72 [.nilFunc] := ⟨fun w => ⟨.nilFunc, by kernel_rfl, by kernel_rfl⟩⟩
instance : TZeroV PP 72 (.nilFunc) := ⟨fun w => by kernel_rfl⟩
instance : TShape PP 73 false 1 := ⟨fun w => by kernel_rfl, fun w => by kernel_rfl⟩
instance : TInfo PP 73 8 := ⟨fun w => ⟨Try.t73, by rw [PP_def]; exact Try.typeInfo73 w, rfl⟩⟩
instance : TZero PP 73 [.nilFunc] := ⟨fun w => ⟨.nilFunc, by kernel_rfl, by kernel_rfl⟩⟩
instance : TZeroV PP 73 (.nilFunc) := ⟨fun w => by kernel_rfl⟩
instance : TShape PP 74 false 1 := ⟨fun w => by kernel_rfl, fun w => by kernel_rfl⟩
instance : TInfo PP 74 8 := ⟨fun w => ⟨Try.t74, by rw [PP_def]; exact Try.typeInfo74 w, rfl⟩⟩
instance : TZero PP 74 [.nilFunc] := ⟨fun w => ⟨.nilFunc, by kernel_rfl, by kernel_rfl⟩⟩
instance : TZeroV PP 74 (.nilFunc) := ⟨fun w => by kernel_rfl⟩
instance : TShape PP 75 false 1 := ⟨fun w => by kernel_rfl, fun w => by kernel_rfl⟩
instance : TInfo PP 75 8 := ⟨fun w => ⟨Try.t75, by rw [PP_def]; exact Try.typeInfo75 w, rfl⟩⟩
instance : TZero PP 75 [.nilFunc] := ⟨fun w => ⟨.nilFunc, by kernel_rfl, by kernel_rfl⟩⟩
instance : TZeroV PP 75 (.nilFunc) := ⟨fun w => by kernel_rfl⟩
instance : TShape PP 76 false 1 := ⟨fun w => by kernel_rfl, fun w => by kernel_rfl⟩
instance : TInfo PP 76 8 := ⟨fun w => ⟨Try.t76, by rw [PP_def]; exact Try.typeInfo76 w, rfl⟩⟩
instance : TZero PP 76 [.nilFunc] := ⟨fun w => ⟨.nilFunc, by kernel_rfl, by kernel_rfl⟩⟩
instance : TZeroV PP 76 (.nilFunc) := ⟨fun w => by kernel_rfl⟩
instance : TShape PP 77 false 1 := ⟨fun w => by kernel_rfl, fun w => by kernel_rfl⟩
instance : TInfo PP 77 8 := ⟨fun w => ⟨Try.t77, by rw [PP_def]; exact Try.typeInfo77 w, rfl⟩⟩
instance : TZero PP 77 [.nilFunc] := ⟨fun w => ⟨.nilFunc, by kernel_rfl, by kernel_rfl⟩⟩
instance : TZeroV PP 77 (.nilFunc) := ⟨fun w => by kernel_rfl⟩
instance : TShape PP 79 false 1 := ⟨fun w => by kernel_rfl, fun w => by kernel_rfl⟩
instance : TInfo PP 79 8 := ⟨fun w => ⟨Try.t79, by rw [PP_def]; exact Try.typeInfo79 w, rfl⟩⟩
instance : TZero PP 79 [.nilFunc] := ⟨fun w => ⟨.nilFunc, by kernel_rfl, by kernel_rfl⟩⟩
instance : TZeroV PP 79 (.nilFunc) := ⟨fun w => by kernel_rfl⟩
instance : TShape PP 80 true 6 := ⟨fun w => by kernel_rfl, fun w => by kernel_rfl⟩
instance : TInfo PP 80 40 := ⟨fun w => ⟨Try.t80, by rw [PP_def]; exact Try.typeInfo80 w, rfl⟩⟩
instance : TZero PP 80 [.int .i64 0, .int .i64 0, .int .u32 0, .int .u32 0, .int .i64 0, .bool false] := ⟨fun w => ⟨.agg #[.int .i64 0, .int .i64 0, .int .u32 0, .int .u32 0, .int .i64 0, .bool false], by kernel_rfl, by kernel_rfl⟩⟩
instance : TZeroV PP 80 (.agg #[.int .i64 0, .int .i64 0, .int .u32 0, .int .u32 0, .int .i64 0, .bool false]) := ⟨fun w => by kernel_rfl⟩
instance : TStruct PP 80 [.int .i64 0, .int .i64 0, .int .u32 0, .int .u32 0, .int .i64 0, .bool false] [(0, 1), (1, 3), (4, 1), (5, 1)] := ⟨⟨_, by rw [PP_def]; exact Try.underlying80, fun w => by kernel_rfl⟩, fun w => ⟨.agg #[.int .i64 0, .int .i64 0, .int .u32 0, .int .u32 0, .int .i64 0, .bool false], by kernel_rfl, by kernel_rfl⟩⟩
instance : TField PP 80 0 0 := ⟨fun b o w => by kernel_rfl⟩
instance : TPart PP 80 0 false 0 1 := part_lemma (ft := 27) (by rw [PP_def]; exact Try.underlying80) rfl rfl rfl
instance : TField PP 80 1 1 := ⟨fun b o w => by kernel_rfl⟩
instance : TPart PP 80 1 true 1 3 := part_lemma (ft := 48) (by rw [PP_def]; exact Try.underlying80) rfl rfl rfl
instance : TField PP 80 2 4 := ⟨fun b o w => by kernel_rfl⟩
instance : TPart PP 80 2 false 4 1 := part_lemma (ft := 2) (by rw [PP_def]; exact Try.underlying80) rfl rfl rfl
instance : TField PP 80 3 5 := ⟨fun b o w => by kernel_rfl⟩
instance : TPart PP 80 3 false 5 1 := part_lemma (ft := 4) (by rw [PP_def]; exact Try.underlying80) rfl rfl rfl
instance : TShape PP 81 true 6 := ⟨fun w => by kernel_rfl, fun w => by kernel_rfl⟩
instance : TInfo PP 81 40 := ⟨fun w => ⟨Try.t81, by rw [PP_def]; exact Try.typeInfo81 w, rfl⟩⟩
instance : TZero PP 81 [.int .i64 0, .int .i64 0, .int .u32 0, .int .u32 0, .int .i64 0, .bool false] := ⟨fun w => ⟨.agg #[.int .i64 0, .int .i64 0, .int .u32 0, .int .u32 0, .int .i64 0, .bool false], by kernel_rfl, by kernel_rfl⟩⟩
instance : TZeroV PP 81 (.agg #[.int .i64 0, .int .i64 0, .int .u32 0, .int .u32 0, .int .i64 0, .bool false]) := ⟨fun w => by kernel_rfl⟩
instance : TStruct PP 81 [.int .i64 0, .int .i64 0, .int .u32 0, .int .u32 0, .int .i64 0, .bool false] [(0, 1), (1, 3), (4, 1), (5, 1)] := ⟨⟨_, by rw [PP_def]; exact Try.underlying81, fun w => by kernel_rfl⟩, fun w => ⟨.agg #[.int .i64 0, .int .i64 0, .int .u32 0, .int .u32 0, .int .i64 0, .bool false], by kernel_rfl, by kernel_rfl⟩⟩
instance : TField PP 81 0 0 := ⟨fun b o w => by kernel_rfl⟩
instance : TPart PP 81 0 false 0 1 := part_lemma (ft := 27) (by rw [PP_def]; exact Try.underlying81) rfl rfl rfl
instance : TField PP 81 1 1 := ⟨fun b o w => by kernel_rfl⟩
instance : TPart PP 81 1 true 1 3 := part_lemma (ft := 48) (by rw [PP_def]; exact Try.underlying81) rfl rfl rfl
instance : TField PP 81 2 4 := ⟨fun b o w => by kernel_rfl⟩
instance : TPart PP 81 2 false 4 1 := part_lemma (ft := 2) (by rw [PP_def]; exact Try.underlying81) rfl rfl rfl
instance : TField PP 81 3 5 := ⟨fun b o w => by kernel_rfl⟩
instance : TPart PP 81 3 false 5 1 := part_lemma (ft := 4) (by rw [PP_def]; exact Try.underlying81) rfl rfl rfl
instance : TShape PP 83 false 1 := ⟨fun w => by kernel_rfl, fun w => by kernel_rfl⟩
instance : TInfo PP 83 8 := ⟨fun w => ⟨Try.t83, by rw [PP_def]; exact Try.typeInfo83 w, rfl⟩⟩
instance : TZero PP 83 [.nilFunc] := ⟨fun w => ⟨.nilFunc, by kernel_rfl, by kernel_rfl⟩⟩
instance : TZeroV PP 83 (.nilFunc) := ⟨fun w => by kernel_rfl⟩
instance : TShape PP 84 false 1 := ⟨fun w => by kernel_rfl, fun w => by kernel_rfl⟩
instance : TInfo PP 84 8 := ⟨fun w => ⟨Try.t84, by rw [PP_def]; exact Try.typeInfo84 w, rfl⟩⟩
instance : TZero PP 84 [.nilFunc] := ⟨fun w => ⟨.nilFunc, by kernel_rfl, by kernel_rfl⟩⟩
instance : TZeroV PP 84 (.nilFunc) := ⟨fun w => by kernel_rfl⟩
instance : TShape PP 86 false 1 := ⟨fun w => by kernel_rfl, fun w => by kernel_rfl⟩
instance : TInfo PP 86 8 := ⟨fun w => ⟨Try.t86, by rw [PP_def]; exact Try.typeInfo86 w, rfl⟩⟩
instance : TZero PP 86 [.nilFunc] := ⟨fun w => ⟨.nilFunc, by kernel_rfl, by kernel_rfl⟩⟩
instance : TZeroV PP 86 (.nilFunc) := ⟨fun w => by kernel_rfl⟩
instance : TShape PP 87 false 1 := ⟨fun w => by kernel_rfl, fun w => by kernel_rfl⟩
instance : TInfo PP 87 8 := ⟨fun w => ⟨Try.t87, by rw [PP_def]; exact Try.typeInfo87 w, rfl⟩⟩
instance : TZero PP 87 [.nilFunc] := ⟨fun w => ⟨.nilFunc, by kernel_rfl, by kernel_rfl⟩⟩
instance : TZeroV PP 87 (.nilFunc) := ⟨fun w => by kernel_rfl⟩
instance : TShape PP 89 false 1 := ⟨fun w => by kernel_rfl, fun w => by kernel_rfl⟩
instance : TInfo PP 89 8 := ⟨fun w => ⟨Try.t89, by rw [PP_def]; exact Try.typeInfo89 w, rfl⟩⟩
instance : TZero PP 89 [.nilFunc] := ⟨fun w => ⟨.nilFunc, by kernel_rfl, by kernel_rfl⟩⟩
instance : TZeroV PP 89 (.nilFunc) := ⟨fun w => by kernel_rfl⟩
instance : TShape PP 90 false 1 := ⟨fun w => by kernel_rfl, fun w => by kernel_rfl⟩
instance : TInfo PP 90 8 := ⟨fun w => ⟨Try.t90, by rw [PP_def]; exact Try.typeInfo90 w, rfl⟩⟩
instance : TZero PP 90 [.nilFunc] := ⟨fun w => ⟨.nilFunc, by kernel_rfl, by kernel_rfl⟩⟩
instance : TZeroV PP 90 (.nilFunc) := ⟨fun w => by kernel_rfl⟩
instance : TShape PP 91 true 3 := ⟨fun w => by kernel_rfl, fun w => by kernel_rfl⟩
instance : TInfo PP 91 24 := ⟨fun w => ⟨Try.t91, by rw [PP_def]; exact Try.typeInfo91 w, rfl⟩⟩
instance : TZero PP 91 [.int .i64 0, .int .i64 0, .int .i64 0] := ⟨fun w => ⟨.agg #[.int .i64 0, .int .i64 0, .int .i64 0], by kernel_rfl, by kernel_rfl⟩⟩
instance : TZeroV PP 91 (.agg #[.int .i64 0, .int .i64 0, .int .i64 0]) := ⟨fun w => by kernel_rfl⟩
instance : TUnd PP 91 (.array 3 2) := ⟨by kernel_rfl⟩
instance : TShape PP 92 false 1 := ⟨fun w => by kernel_rfl, fun w => by kernel_rfl⟩
instance : TInfo PP 92 8 := ⟨fun w => ⟨Try.t92, by rw [PP_def]; exact Try.typeInfo92 w, rfl⟩⟩
instance : TZero PP 92 [.nilFunc] := ⟨fun w => ⟨.nilFunc, by kernel_rfl, by kernel_rfl⟩⟩
instance : TZeroV PP 92 (.nilFunc) := ⟨fun w => by kernel_rfl⟩
instance : TShape PP 93 true 2 := ⟨fun w => by kernel_rfl, fun w => by kernel_rfl⟩
instance : TInfo PP 93 16 := ⟨fun w => ⟨Try.t93, by rw [PP_def]; exact Try.typeInfo93 w, rfl⟩⟩
instance : TZero PP 93 [.int .i64 0, .int .i64 0] := ⟨fun w => ⟨.agg #[.int .i64 0, .int .i64 0], by kernel_rfl, by kernel_rfl⟩⟩
instance : TZeroV PP 93 (.agg #[.int .i64 0, .int .i64 0]) := ⟨fun w => by kernel_rfl⟩
instance : TUnd PP 93 (.array 2 2) := ⟨by kernel_rfl⟩
instance : TShape PP 95 false 1 := ⟨fun w => by kernel_rfl, fun w => by kernel_rfl⟩
instance : TInfo PP 95 8 := ⟨fun w => ⟨Try.t95, by rw [PP_def]; exact Try.typeInfo95 w, rfl⟩⟩
instance : TZero PP 95 [.nilFunc] := ⟨fun w => ⟨.nilFunc, by kernel_rfl, by kernel_rfl⟩⟩
instance : TZeroV PP 95 (.nilFunc) := ⟨fun w => by kernel_rfl⟩
instance : TShape PP 96 true 2 := ⟨fun w => by kernel_rfl, fun w => by kernel_rfl⟩
instance : TInfo PP 96 16 := ⟨fun w => ⟨Try.t96, by rw [PP_def]; exact Try.typeInfo96 w, rfl⟩⟩
instance : TZero PP 96 [.int .i64 0, .int .i64 0] := ⟨fun w => ⟨.agg #[.int .i64 0, .int .i64 0], by kernel_rfl, by kernel_rfl⟩⟩
instance : TZeroV PP 96 (.agg #[.int .i64 0, .int .i64 0]) := ⟨fun w => by kernel_rfl⟩
instance : TUnd PP 96 (.array 2 27) := ⟨by kernel_rfl⟩
instance : TShape PP 97 false 1 := ⟨fun w => by kernel_rfl, fun w => by kernel_rfl⟩
instance : TInfo PP 97 8 := ⟨fun w => ⟨Try.t97, by rw [PP_def]; exact Try.typeInfo97 w, rfl⟩⟩
instance : TZero PP 97 [.nilFunc] := ⟨fun w => ⟨.nilFunc, by kernel_rfl, by kernel_rfl⟩⟩
instance : TZeroV PP 97 (.nilFunc) := ⟨fun w => by kernel_rfl⟩
instance : TShape PP 98 false 1 := ⟨fun w => by kernel_rfl, fun w => by kernel_rfl⟩
instance : TInfo PP 98 8 := ⟨fun w => ⟨Try.t98, by rw [PP_def]; exact Try.typeInfo98 w, rfl⟩⟩
instance : TZero PP 98 [.map none] := ⟨fun w => ⟨.map none, by kernel_rfl, by kernel_rfl⟩⟩
instance : TZeroV PP 98 (.map none) := ⟨fun w => by kernel_rfl⟩
instance : TUnd PP 98 (.map 27 4) := ⟨by kernel_rfl⟩
instance : TShape PP 99 false 1 := ⟨fun w => by kernel_rfl, fun w => by kernel_rfl⟩
instance : TInfo PP 99 24 := ⟨fun w => ⟨Try.t99, by rw [PP_def]; exact Try.typeInfo99 w, rfl⟩⟩
instance : TZero PP 99 [.slice none 0 0] := ⟨fun w => ⟨.slice none 0 0, by kernel_rfl, by kernel_rfl⟩⟩
instance : TZeroV PP 99 (.slice none 0 0) := ⟨fun w => by kernel_rfl⟩
instance : TUnd PP 99 (.slice 104) := ⟨by kernel_rfl⟩
instance : TShape PP 100 true 5 := ⟨fun w => by kernel_rfl, fun w => by kernel_rfl⟩
instance : TInfo PP 100 56 := ⟨fun w => ⟨Try.t100, by rw [PP_def]; exact Try.typeInfo100 w, rfl⟩⟩
instance : TZero PP 100 [.map none, .map none, .slice none 0 0, .int .i64 0, .bool false] := ⟨fun w => ⟨.agg #[.map none, .map none, .slice none 0 0, .int .i64 0, .bool false], by kernel_rfl, by kernel_rfl⟩⟩
instance : TZeroV PP 100 (.agg #[.map none, .map none, .slice none 0 0, .int .i64 0, .bool false]) := ⟨fun w => by kernel_rfl⟩
instance : TStruct PP 100 [.map none, .map none, .slice none 0 0, .int .i64 0, .bool false] [(0, 1), (1, 1), (2, 1), (3, 1), (4, 1)] := ⟨⟨_, by rw [PP_def]; exact Try.underlying100, fun w => by kernel_rfl⟩, fun w => ⟨.agg #[.map none, .map none, .slice none 0 0, .int .i64 0, .bool false], by kernel_rfl, by kernel_rfl⟩⟩
instance : TField PP 100 0 0 := ⟨fun b o w => by kernel_rfl⟩
instance : TPart PP 100 0 false 0 1 := part_lemma (ft := 25) (by rw [PP_def]; exact Try.underlying100) rfl rfl rfl
instance : TField PP 100 1 1 := ⟨fun b o w => by kernel_rfl⟩
instance : TPart PP 100 1 false 1 1 := part_lemma (ft := 98) (by rw [PP_def]; exact Try.underlying100) rfl rfl rfl
instance : TField PP 100 2 2 := ⟨fun b o w => by kernel_rfl⟩
instance : TPart PP 100 2 false 2 1 := part_lemma (ft := 99) (by rw [PP_def]; exact Try.underlying100) rfl rfl rfl
instance : TField PP 100 3 3 := ⟨fun b o w => by kernel_rfl⟩
instance : TPart PP 100 3 false 3 1 := part_lemma (ft := 27) (by rw [PP_def]; exact Try.underlying100) rfl rfl rfl
instance : TField PP 100 4 4 := ⟨fun b o w => by kernel_rfl⟩
instance : TPart PP 100 4 false 4 1 := part_lemma (ft := 4) (by rw [PP_def]; exact Try.underlying100) rfl rfl rfl
instance : TShape PP 101 true 5 := ⟨fun w => by kernel_rfl, fun w => by kernel_rfl⟩
instance : TInfo PP 101 56 := ⟨fun w => ⟨Try.t101, by rw [PP_def]; exact Try.typeInfo101 w, rfl⟩⟩
instance : TZero PP 101 [.map none, .map none, .slice none 0 0, .int .i64 0, .bool false] := ⟨fun w => ⟨.agg #[.map none, .map none, .slice none 0 0, .int .i64 0, .bool false], by kernel_rfl, by kernel_rfl⟩⟩
instance : TZeroV PP 101 (.agg #[.map none, .map none, .slice none 0 0, .int .i64 0, .bool false]) := ⟨fun w => by kernel_rfl⟩
instance : TStruct PP 101 [.map none, .map none, .slice none 0 0, .int .i64 0, .bool false] [(0, 1), (1, 1), (2, 1), (3, 1), (4, 1)] := ⟨⟨_, by rw [PP_def]; exact Try.underlying101, fun w => by kernel_rfl⟩, fun w => ⟨.agg #[.map none, .map none, .slice none 0 0, .int .i64 0, .bool false], by kernel_rfl, by kernel_rfl⟩⟩
instance : TField PP 101 0 0 := ⟨fun b o w => by kernel_rfl⟩
instance : TPart PP 101 0 false 0 1 := part_lemma (ft := 25) (by rw [PP_def]; exact Try.underlying101) rfl rfl rfl
instance : TField PP 101 1 1 := ⟨fun b o w => by kernel_rfl⟩
instance : TPart PP 101 1 false 1 1 := part_lemma (ft := 98) (by rw [PP_def]; exact Try.underlying101) rfl rfl rfl
instance : TField PP 101 2 2 := ⟨fun b o w => by kernel_rfl⟩
instance : TPart PP 101 2 false 2 1 := part_lemma (ft := 99) (by rw [PP_def]; exact Try.underlying101) rfl rfl rfl
instance : TField PP 101 3 3 := ⟨fun b o w => by kernel_rfl⟩
instance : TPart PP 101 3 false 3 1 := part_lemma (ft := 27) (by rw [PP_def]; exact Try.underlying101) rfl rfl rfl
instance : TField PP 101 4 4 := ⟨fun b o w => by kernel_rfl⟩
instance : TPart PP 101 4 false 4 1 := part_lemma (ft := 4) (by rw [PP_def]; exact Try.underlying101) rfl rfl rfl
instance : TShape PP 102 false 1 := ⟨fun w => by kernel_rfl, fun w => by kernel_rfl⟩
instance : TInfo PP 102 8 := ⟨fun w => ⟨Try.t102, by rw [PP_def]; exact Try.typeInfo102 w, rfl⟩⟩
instance : TZero PP 102 [.nilFunc] := ⟨fun w => ⟨.nilFunc, by kernel_rfl, by kernel_rfl⟩⟩
instance : TZeroV PP 102 (.nilFunc) := ⟨fun w => by kernel_rfl⟩
instance : TShape PP 103 true 2 := ⟨fun w => by kernel_rfl, fun w => by kernel_rfl⟩
instance : TInfo PP 103 16 := ⟨fun w => ⟨Try.t103, by rw [PP_def]; exact Try.typeInfo103 w, rfl⟩⟩
instance : TZero PP 103 [.int .i64 0, .int .i64 0] := ⟨fun w => ⟨.agg #[.int .i64 0, .int .i64 0], by kernel_rfl, by kernel_rfl⟩⟩
instance : TZeroV PP 103 (.agg #[.int .i64 0, .int .i64 0]) := ⟨fun w => by kernel_rfl⟩
instance : TStruct PP 103 [.int .i64 0, .int .i64 0] [(0, 1), (1, 1)] := ⟨⟨_, by rw [PP_def]; exact Try.underlying103, fun w => by kernel_rfl⟩, fun w => ⟨.agg #[.int .i64 0, .int .i64 0], by kernel_rfl, by kernel_rfl⟩⟩
instance : TField PP 103 0 0 := ⟨fun b o w => by kernel_rfl⟩
instance : TPart PP 103 0 false 0 1 := part_lemma (ft := 27) (by rw [PP_def]; exact Try.underlying103) rfl rfl rfl
instance : TField PP 103 1 1 := ⟨fun b o w => by kernel_rfl⟩
instance : TPart PP 103 1 false 1 1 := part_lemma (ft := 2) (by rw [PP_def]; exact Try.underlying103) rfl rfl rfl
instance : TShape PP 104 true 2 := ⟨fun w => by kernel_rfl, fun w => by kernel_rfl⟩
instance : TInfo PP 104 16 := ⟨fun w => ⟨Try.t104, by rw [PP_def]; exact Try.typeInfo104 w, rfl⟩⟩
instance : TZero PP 104 [.int .i64 0, .int .i64 0] := ⟨fun w => ⟨.agg #[.int .i64 0, .int .i64 0], by kernel_rfl, by kernel_rfl⟩⟩
instance : TZeroV PP 104 (.agg #[.int .i64 0, .int .i64 0]) := ⟨fun w => by kernel_rfl⟩
instance : TStruct PP 104 [.int .i64 0, .int .i64 0] [(0, 1), (1, 1)] := ⟨⟨_, by rw [PP_def]; exact Try.underlying104, fun w => by kernel_rfl⟩, fun w => ⟨.agg #[.int .i64 0, .int .i64 0], by kernel_rfl, by kernel_rfl⟩⟩
instance : TField PP 104 0 0 := ⟨fun b o w => by kernel_rfl⟩
instance : TPart PP 104 0 false 0 1 := part_lemma (ft := 27) (by rw [PP_def]; exact Try.underlying104) rfl rfl rfl
instance : TField PP 104 1 1 := ⟨fun b o w => by kernel_rfl⟩
instance : TPart PP 104 1 false 1 1 := part_lemma (ft := 2) (by rw [PP_def]; exact Try.underlying104) rfl rfl rfl
instance : TShape PP 105 false 1 := ⟨fun w => by kernel_rfl, fun w => by kernel_rfl⟩
instance : TInfo PP 105 8 := ⟨fun w => ⟨Try.t105, by rw [PP_def]; exact Try.typeInfo105 w, rfl⟩⟩
instance : TZero PP 105 [.nilFunc] := ⟨fun w => ⟨.nilFunc, by kernel_rfl, by kernel_rfl⟩⟩
instance : TZeroV PP 105 (.nilFunc) := ⟨fun w => by kernel_rfl⟩
instance : TShape PP 106 false 1 := ⟨fun w => by kernel_rfl, fun w => by kernel_rfl⟩
instance : TInfo PP 106 8 := ⟨fun w => ⟨Try.t106, by rw [PP_def]; exact Try.typeInfo106 w, rfl⟩⟩
instance : TZero PP 106 [.nilFunc] := ⟨fun w => ⟨.nilFunc, by kernel_rfl, by kernel_rfl⟩⟩
instance : TZeroV PP 106 (.nilFunc) := ⟨fun w => by kernel_rfl⟩
instance : TShape PP 108 false 1 := ⟨fun w => by kernel_rfl, fun w => by kernel_rfl⟩
instance : TInfo PP 108 8 := ⟨fun w => ⟨Try.t108, by rw [PP_def]; exact Try.typeInfo108 w, rfl⟩⟩
instance : TZero PP 108 [.nilFunc] := ⟨fun w => ⟨.nilFunc, by kernel_rfl, by kernel_rfl⟩⟩
instance : TZeroV PP 108 (.nilFunc) := ⟨fun w => by kernel_rfl⟩
instance : TShape PP 109 false 1 := ⟨fun w => by kernel_rfl, fun w => by kernel_rfl⟩
instance : TInfo PP 109 8 := ⟨fun w => ⟨Try.t109, by rw [PP_def]; exact Try.typeInfo109 w, rfl⟩⟩
instance : TZero PP 109 [.nilFunc] := ⟨fun w => ⟨.nilFunc, by kernel_rfl, by kernel_rfl⟩⟩
instance : TZeroV PP 109 (.nilFunc) := ⟨fun w => by kernel_rfl⟩
instance : TShape PP 110 false 1 := ⟨fun w => by kernel_rfl, fun w => by kernel_rfl⟩
instance : TInfo PP 110 8 := ⟨fun w => ⟨Try.t110, by rw [PP_def]; exact Try.typeInfo110 w, rfl⟩⟩
instance : TZero PP 110 [.nilFunc] := ⟨fun w => ⟨.nilFunc, by kernel_rfl, by kernel_rfl⟩⟩
instance : TZeroV PP 110 (.nilFunc) := ⟨fun w => by kernel_rfl⟩
instance : TShape PP 111 false 1 := ⟨fun w => by kernel_rfl, fun w => by kernel_rfl⟩
instance : TInfo PP 111 8 := ⟨fun w => ⟨Try.t111, by rw [PP_def]; exact Try.typeInfo111 w, rfl⟩⟩
instance : TZero PP 111 [.nilFunc] := ⟨fun w => ⟨.nilFunc, by kernel_rfl, by kernel_rfl⟩⟩
instance : TZeroV PP 111 (.nilFunc) := ⟨fun w => by kernel_rfl⟩
instance : TShape PP 112 false 1 := ⟨fun w => by kernel_rfl, fun w => by kernel_rfl⟩
instance : TInfo PP 112 8 := ⟨fun w => ⟨Try.t112, by rw [PP_def]; exact Try.typeInfo112 w, rfl⟩⟩
instance : TZero PP 112 [.nilFunc] := ⟨fun w => ⟨.nilFunc, by kernel_rfl, by kernel_rfl⟩⟩
instance : TZeroV PP 112 (.nilFunc) := ⟨fun w => by kernel_rfl⟩
instance : TShape PP 113 false 1 := ⟨fun w => by kernel_rfl, fun w => by kernel_rfl⟩
instance : TInfo PP 113 8 := ⟨fun w => ⟨Try.t113, by rw [PP_def]; exact Try.typeInfo113 w, rfl⟩⟩
instance : TZero PP 113 [.nilFunc] := ⟨fun w => ⟨.nilFunc, by kernel_rfl, by kernel_rfl⟩⟩
instance : TZeroV PP 113 (.nilFunc) := ⟨fun w => by kernel_rfl⟩
instance : TShape PP 114 false 1 := ⟨fun w => by kernel_rfl, fun w => by kernel_rfl⟩
instance : TInfo PP 114 8 := ⟨fun w => ⟨Try.t114, by rw [PP_def]; exact Try.typeInfo114 w, rfl⟩⟩
instance : TZero PP 114 [.nilFunc] := ⟨fun w => ⟨.nilFunc, by kernel_rfl, by kernel_rfl⟩⟩
instance : TZeroV PP 114 (.nilFunc) := ⟨fun w => by kernel_rfl⟩
instance : TShape PP 115 false 1 := ⟨fun w => by kernel_rfl, fun w => by kernel_rfl⟩
instance : TInfo PP 115 8 := ⟨fun w => ⟨Try.t115, by rw [PP_def]; exact Try.typeInfo115 w, rfl⟩⟩
instance : TZero PP 115 [.nilFunc] := ⟨fun w => ⟨.nilFunc, by kernel_rfl, by kernel_rfl⟩⟩
instance : TZeroV PP 115 (.nilFunc) := ⟨fun w => by kernel_rfl⟩
instance : TShape PP 116 false 1 := ⟨fun w => by kernel_rfl, fun w => by kernel_rfl⟩
instance : TInfo PP 116 8 := ⟨fun w => ⟨Try.t116, by rw [PP_def]; exact Try.typeInfo116 w, rfl⟩⟩
instance : TZero PP 116 [.nilFunc] := ⟨fun w => ⟨.nilFunc, by kernel_rfl, by kernel_rfl⟩⟩
instance : TZeroV PP 116 (.nilFunc) := ⟨fun w => by kernel_rfl⟩
instance : TShape PP 117 false 1 := ⟨fun w => by kernel_rfl, fun w => by kernel_rfl⟩
instance : TInfo PP 117 8 := ⟨fun w => ⟨Try.t117, by rw [PP_def]; exact Try.typeInfo117 w, rfl⟩⟩
instance : TZero PP 117 [.nilFunc] := ⟨fun w => ⟨.nilFunc, by kernel_rfl, by kernel_rfl⟩⟩
instance : TZeroV PP 117 (.nilFunc) := ⟨fun w => by kernel_rfl⟩
instance : TShape PP 119 false 1 := ⟨fun w => by kernel_rfl, fun w => by kernel_rfl⟩
instance : TInfo PP 119 8 := ⟨fun w => ⟨Try.t119, by rw [PP_def]; exact Try.typeInfo119 w, rfl⟩⟩
instance : TZero PP 119 [.nilFunc] := ⟨fun w => ⟨.nilFunc, by kernel_rfl, by kernel_rfl⟩⟩
instance : TZeroV PP 119 (.nilFunc) := ⟨fun w => by kernel_rfl⟩
instance : TShape PP 120 false 1 := ⟨fun w => by kernel_rfl, fun w => by kernel_rfl⟩
instance : TInfo PP 120 8 := ⟨fun w => ⟨Try.t120, by rw [PP_def]; exact Try.typeInfo120 w, rfl⟩⟩
instance : TZero PP 120 [.nilFunc] := ⟨fun w => ⟨.nilFunc, by kernel_rfl, by kernel_rfl⟩⟩
instance : TZeroV PP 120 (.nilFunc) := ⟨fun w => by kernel_rfl⟩
instance : TShape PP 121 false 1 := ⟨fun w => by kernel_rfl, fun w => by kernel_rfl⟩
instance : TInfo PP 121 8 := ⟨fun w => ⟨Try.t121, by rw [PP_def]; exact Try.typeInfo121 w, rfl⟩⟩
instance : TZero PP 121 [.nilFunc] := ⟨fun w => ⟨.nilFunc, by kernel_rfl, by kernel_rfl⟩⟩
instance : TZeroV PP 121 (.nilFunc) := ⟨fun w => by kernel_rfl⟩
instance : TShape PP 122 false 1 := ⟨fun w => by kernel_rfl, fun w => by kernel_rfl⟩
instance : TInfo PP 122 8 := ⟨fun w => ⟨Try.t122, by rw [PP_def]; exact Try.typeInfo122 w, rfl⟩⟩
instance : TZero PP 122 [.int .u64 0] := ⟨fun w => ⟨.int .u64 0, by kernel_rfl, by kernel_rfl⟩⟩
instance : TZeroV PP 122 (.int .u64 0) := ⟨fun w => by kernel_rfl⟩
instance : TUnd PP 122 (.int (.u64)) := ⟨by kernel_rfl⟩
instance : TShape PP 123 false 1 := ⟨fun w => by kernel_rfl, fun w => by kernel_rfl⟩
instance : TInfo PP 123 8 := ⟨fun w => ⟨Try.t123, by rw [PP_def]; exact Try.typeInfo123 w, rfl⟩⟩
instance : TZero PP 123 [.nilFunc] := ⟨fun w => ⟨.nilFunc, by kernel_rfl, by kernel_rfl⟩⟩
instance : TZeroV PP 123 (.nilFunc) := ⟨fun w => by kernel_rfl⟩
instance : TShape PP 124 false 1 := ⟨fun w => by kernel_rfl, fun w => by kernel_rfl⟩
instance : TInfo PP 124 8 := ⟨fun w => ⟨Try.t124, by rw [PP_def]; exact Try.typeInfo124 w, rfl⟩⟩
instance : TZero PP 124 [.nilFunc] := ⟨fun w => ⟨.nilFunc, by kernel_rfl, by kernel_rfl⟩⟩
instance : TZeroV PP 124 (.nilFunc) := ⟨fun w => by kernel_rfl⟩
instance : TShape PP 125 false 1 := ⟨fun w => by kernel_rfl, fun w => by kernel_rfl⟩
instance : TInfo PP 125 8 := ⟨fun w => ⟨Try.t125, by rw [PP_def]; exact Try.typeInfo125 w, rfl⟩⟩
instance : TZero PP 125 [.nilFunc] := ⟨fun w => ⟨.nilFunc, by kernel_rfl, by kernel_rfl⟩⟩
instance : TZeroV PP 125 (.nilFunc) := ⟨fun w => by kernel_rfl⟩
instance : TShape PP 126 false 1 := ⟨fun w => by kernel_rfl, fun w => by kernel_rfl⟩
instance : TInfo PP 126 8 := ⟨fun w => ⟨Try.t126, by rw [PP_def]; exact Try.typeInfo126 w, rfl⟩⟩
instance : TZero PP 126 [.nilFunc] := ⟨fun w => ⟨.nilFunc, by kernel_rfl, by kernel_rfl⟩⟩
instance : TZeroV PP 126 (.nilFunc) := ⟨fun w => by kernel_rfl⟩
instance : TShape PP 127 false 1 := ⟨fun w => by kernel_rfl, fun w => by kernel_rfl⟩
instance : TInfo PP 127 8 := ⟨fun w => ⟨Try.t127, by rw [PP_def]; exact Try.typeInfo127 w, rfl⟩⟩
instance : TZero PP 127 [.nilFunc] := ⟨fun w => ⟨.nilFunc, by kernel_rfl, by kernel_rfl⟩⟩
instance : TZeroV PP 127 (.nilFunc) := ⟨fun w => by kernel_rfl⟩
instance : TShape PP 128 false 1 := ⟨fun w => by kernel_rfl, fun w => by kernel_rfl⟩
instance : TInfo PP 128 8 := ⟨fun w => ⟨Try.t128, by rw [PP_def]; exact Try.typeInfo128 w, rfl⟩⟩
instance : TZero PP 128 [.nilFunc] := ⟨fun w => ⟨.nilFunc, by kernel_rfl, by kernel_rfl⟩⟩
instance : TZeroV PP 128 (.nilFunc) := ⟨fun w => by kernel_rfl⟩
instance : TShape PP 130 false 1 := ⟨fun w => by kernel_rfl, fun w => by kernel_rfl⟩
instance : TInfo PP 130 8 := ⟨fun w => ⟨Try.t130, by rw [PP_def]; exact Try.typeInfo130 w, rfl⟩⟩
instance : TZero PP 130 [.nilFunc] := ⟨fun w => ⟨.nilFunc, by kernel_rfl, by kernel_rfl⟩⟩
instance : TZeroV PP 130 (.nilFunc) := ⟨fun w => by kernel_rfl⟩
instance : TShape PP 131 false 1 := ⟨fun w => by kernel_rfl, fun w => by kernel_rfl⟩
instance : TInfo PP 131 8 := ⟨fun w => ⟨Try.t131, by rw [PP_def]; exact Try.typeInfo131 w, rfl⟩⟩
instance : TZero PP 131 [.nilFunc] := ⟨fun w => ⟨.nilFunc, by kernel_rfl, by kernel_rfl⟩⟩
instance : TZeroV PP 131 (.nilFunc) := ⟨fun w => by kernel_rfl⟩
instance : TShape PP 132 false 1 := ⟨fun w => by kernel_rfl, fun w => by kernel_rfl⟩
instance : TInfo PP 132 8 := ⟨fun w => ⟨Try.t132, by rw [PP_def]; exact Try.typeInfo132 w, rfl⟩⟩
instance : TZero PP 132 [.int .i64 0] := ⟨fun w => ⟨.int .i64 0, by kernel_rfl, by kernel_rfl⟩⟩
instance : TZeroV PP 132 (.int .i64 0) := ⟨fun w => by kernel_rfl⟩
instance : TUnd PP 132 (.int (.i64)) := ⟨by kernel_rfl⟩
instance : TShape PP 134 false 1 := ⟨fun w => by kernel_rfl, fun w => by kernel_rfl⟩
instance : TInfo PP 134 8 := ⟨fun w => ⟨Try.t134, by rw [PP_def]; exact Try.typeInfo134 w, rfl⟩⟩
instance : TZero PP 134 [.nilFunc] := ⟨fun w => ⟨.nilFunc, by kernel_rfl, by kernel_rfl⟩⟩
instance : TZeroV PP 134 (.nilFunc) := ⟨fun w => by kernel_rfl⟩
instance : TShape PP 135 false 1 := ⟨fun w => by kernel_rfl, fun w => by kernel_rfl⟩
instance : TInfo PP 135 8 := ⟨fun w => ⟨Try.t135, by rw [PP_def]; exact Try.typeInfo135 w, rfl⟩⟩
instance : TZero PP 135 [.nilFunc] := ⟨fun w => ⟨.nilFunc, by kernel_rfl, by kernel_rfl⟩⟩
instance : TZeroV PP 135 (.nilFunc) := ⟨fun w => by kernel_rfl⟩
instance : TShape PP 136 false 1 := ⟨fun w => by kernel_rfl, fun w => by kernel_rfl⟩
instance : TInfo PP 136 8 := ⟨fun w => ⟨Try.t136, by rw [PP_def]; exact Try.typeInfo136 w, rfl⟩⟩
instance : TZero PP 136 [.nilFunc] := ⟨fun w => ⟨.nilFunc, by kernel_rfl, by kernel_rfl⟩⟩
instance : TZeroV PP 136 (.nilFunc) := ⟨fun w => by kernel_rfl⟩
instance : TShape PP 137 false 1 := ⟨fun w => by kernel_rfl, fun w => by kernel_rfl⟩
instance : TInfo PP 137 8 := ⟨fun w => ⟨Try.t137, by rw [PP_def]; exact Try.typeInfo137 w, rfl⟩⟩
instance : TZero PP 137 [.nilFunc] := ⟨fun w => ⟨.nilFunc, by kernel_rfl, by kernel_rfl⟩⟩
instance : TZeroV PP 137 (.nilFunc) := ⟨fun w => by kernel_rfl⟩
instance : TShape PP 138 false 1 := ⟨fun w => by kernel_rfl, fun w => by kernel_rfl⟩
instance : TInfo PP 138 8 := ⟨fun w => ⟨Try.t138, by rw [PP_def]; exact Try.typeInfo138 w, rfl⟩⟩
instance : TZero PP 138 [.nilFunc] := ⟨fun w => ⟨.nilFunc, by kernel_rfl, by kernel_rfl⟩⟩
instance : TZeroV PP 138 (.nilFunc) := ⟨fun w => by kernel_rfl⟩
instance : TShape PP 139 false 1 := ⟨fun w => by kernel_rfl, fun w => by kernel_rfl⟩
instance : TInfo PP 139 8 := ⟨fun w => ⟨Try.t139, by rw [PP_def]; exact Try.typeInfo139 w, rfl⟩⟩
instance : TZero PP 139 [.nilFunc] := ⟨fun w => ⟨.nilFunc, by kernel_rfl, by kernel_rfl⟩⟩
instance : TZeroV PP 139 (.nilFunc) := ⟨fun w => by kernel_rfl⟩
instance : TShape PP 140 false 1 := ⟨fun w => by kernel_rfl, fun w => by kernel_rfl⟩
instance : TInfo PP 140 8 := ⟨fun w => ⟨Try.t140, by rw [PP_def]; exact Try.typeInfo140 w, rfl⟩⟩
instance : TZero PP 140 [.nilFunc] := ⟨fun w => ⟨.nilFunc, by kernel_rfl, by kernel_rfl⟩⟩
instance : TZeroV PP 140 (.nilFunc) := ⟨fun w => by kernel_rfl⟩
instance : TShape PP 141 false 1 := ⟨fun w => by kernel_rfl, fun w => by kernel_rfl⟩
instance : TInfo PP 141 8 := ⟨fun w => ⟨Try.t141, by rw [PP_def]; exact Try.typeInfo141 w, rfl⟩⟩
instance : TZero PP 141 [.int .u64 0] := ⟨fun w => ⟨.int .u64 0, by kernel_rfl, by kernel_rfl⟩⟩
instance : TZeroV PP 141 (.int .u64 0) := ⟨fun w => by kernel_rfl⟩
instance : TUnd PP 141 (.int (.u64)) := ⟨by kernel_rfl⟩
instance : TShape PP 142 false 1 := ⟨fun w => by kernel_rfl, fun w => by kernel_rfl⟩
instance : TInfo PP 142 8 := ⟨fun w => ⟨Try.t142, by rw [PP_def]; exact Try.typeInfo142 w, rfl⟩⟩
instance : TZero PP 142 [.nilFunc] := ⟨fun w => ⟨.nilFunc, by kernel_rfl, by kernel_rfl⟩⟩
instance : TZeroV PP 142 (.nilFunc) := ⟨fun w => by kernel_rfl⟩
instance : TShape PP 143 false 1 := ⟨fun w => by kernel_rfl, fun w => by kernel_rfl⟩
instance : TInfo PP 143 8 := ⟨fun w => ⟨Try.t143, by rw [PP_def]; exact Try.typeInfo143 w, rfl⟩⟩
instance : TZero PP 143 [.nilFunc] := ⟨fun w => ⟨.nilFunc, by kernel_rfl, by kernel_rfl⟩⟩
instance : TZeroV PP 143 (.nilFunc) := ⟨fun w => by kernel_rfl⟩
instance : TShape PP 144 false 1 := ⟨fun w => by kernel_rfl, fun w => by kernel_rfl⟩
instance : TInfo PP 144 8 := ⟨fun w => ⟨Try.t144, by rw [PP_def]; exact Try.typeInfo144 w, rfl⟩⟩
instance : TZero PP 144 [.nilFunc] := ⟨fun w => ⟨.nilFunc, by kernel_rfl, by kernel_rfl⟩⟩
instance : TZeroV PP 144 (.nilFunc) := ⟨fun w => by kernel_rfl⟩
instance : TShape PP 145 false 1 := ⟨fun w => by kernel_rfl, fun w => by kernel_rfl⟩
instance : TInfo PP 145 8 := ⟨fun w => ⟨Try.t145, by rw [PP_def]; exact Try.typeInfo145 w, rfl⟩⟩
instance : TZero PP 145 [.int .u64 0] := ⟨fun w => ⟨.int .u64 0, by kernel_rfl, by kernel_rfl⟩⟩
instance : TZeroV PP 145 (.int .u64 0) := ⟨fun w => by kernel_rfl⟩
instance : TUnd PP 145 (.int (.u64)) := ⟨by kernel_rfl⟩
instance : TShape PP 146 false 1 := ⟨fun w => by kernel_rfl, fun w => by kernel_rfl⟩
instance : TInfo PP 146 8 := ⟨fun w => ⟨Try.t146, by rw [PP_def]; exact Try.typeInfo146 w, rfl⟩⟩
instance : TZero PP 146 [.nilFunc] := ⟨fun w => ⟨.nilFunc, by kernel_rfl, by kernel_rfl⟩⟩
instance : TZeroV PP 146 (.nilFunc) := ⟨fun w => by kernel_rfl⟩
instance : TShape PP 147 false 1 := ⟨fun w => by kernel_rfl, fun w => by kernel_rfl⟩
instance : TInfo PP 147 8 := ⟨fun w => ⟨Try.t147, by rw [PP_def]; exact Try.typeInfo147 w, rfl⟩⟩
instance : TZero PP 147 [.nilFunc] := ⟨fun w => ⟨.nilFunc, by kernel_rfl, by kernel_rfl⟩⟩
instance : TZeroV PP 147 (.nilFunc) := ⟨fun w => by kernel_rfl⟩
instance : TShape PP 148 false 1 := ⟨fun w => by kernel_rfl, fun w => by kernel_rfl⟩
instance : TInfo PP 148 8 := ⟨fun w => ⟨Try.t148, by rw [PP_def]; exact Try.typeInfo148 w, rfl⟩⟩
instance : TZero PP 148 [.nilFunc] := ⟨fun w => ⟨.nilFunc, by kernel_rfl, by kernel_rfl⟩⟩
instance : TZeroV PP 148 (.nilFunc) := ⟨fun w => by kernel_rfl⟩
instance : TShape PP 149 false 1 := ⟨fun w => by kernel_rfl, fun w => by kernel_rfl⟩
instance : TInfo PP 149 8 := ⟨fun w => ⟨Try.t149, by rw [PP_def]; exact Try.typeInfo149 w, rfl⟩⟩
instance : TZero PP 149 [.pointer none] := ⟨fun w => ⟨.pointer none, by kernel_rfl, by kernel_rfl⟩⟩
instance : TZeroV PP 149 (.pointer none) := ⟨fun w => by kernel_rfl⟩
instance : TUnd PP 149 (.pointer 3) := ⟨by kernel_rfl⟩
instance : TShape PP 150 false 1 := ⟨fun w => by kernel_rfl, fun w => by kernel_rfl⟩
instance : TInfo PP 150 8 := ⟨fun w => ⟨Try.t150, by rw [PP_def]; exact Try.typeInfo150 w, rfl⟩⟩
instance : TZero PP 150 [.nilFunc] := ⟨fun w => ⟨.nilFunc, by kernel_rfl, by kernel_rfl⟩⟩
instance : TZeroV PP 150 (.nilFunc) := ⟨fun w => by kernel_rfl⟩
instance : TShape PP 151 false 1 := ⟨fun w => by kernel_rfl, fun w => by kernel_rfl⟩
instance : TInfo PP 151 8 := ⟨fun w => ⟨Try.t151, by rw [PP_def]; exact Try.typeInfo151 w, rfl⟩⟩
instance : TZero PP 151 [.nilFunc] := ⟨fun w => ⟨.nilFunc, by kernel_rfl, by kernel_rfl⟩⟩
instance : TZeroV PP 151 (.nilFunc) := ⟨fun w => by kernel_rfl⟩
instance : TShape PP 152 false 1 := ⟨fun w => by kernel_rfl, fun w => by kernel_rfl⟩
instance : TInfo PP 152 8 := ⟨fun w => ⟨Try.t152, by rw [PP_def]; exact Try.typeInfo152 w, rfl⟩⟩
instance : TZero PP 152 [.pointer none] := ⟨fun w => ⟨.pointer none, by kernel_rfl, by kernel_rfl⟩⟩
instance : TZeroV PP 152 (.pointer none) := ⟨fun w => by kernel_rfl⟩
instance : TUnd PP 152 (.pointer 145) := ⟨by kernel_rfl⟩
instance : TShape PP 154 false 1 := ⟨fun w => by kernel_rfl, fun w => by kernel_rfl⟩
instance : TInfo PP 154 8 := ⟨fun w => ⟨Try.t154, by rw [PP_def]; exact Try.typeInfo154 w, rfl⟩⟩
instance : TZero PP 154 [.nilFunc] := ⟨fun w => ⟨.nilFunc, by kernel_rfl, by kernel_rfl⟩⟩
instance : TZeroV PP 154 (.nilFunc) := ⟨fun w => by kernel_rfl⟩
instance : TShape PP 155 false 1 := ⟨fun w => by kernel_rfl, fun w => by kernel_rfl⟩
instance : TInfo PP 155 8 := ⟨fun w => ⟨Try.t155, by rw [PP_def]; exact Try.typeInfo155 w, rfl⟩⟩
instance : TZero PP 155 [.nilFunc] := ⟨fun w => ⟨.nilFunc, by kernel_rfl, by kernel_rfl⟩⟩
instance : TZeroV PP 155 (.nilFunc) := ⟨fun w => by kernel_rfl⟩
instance : TShape PP 157 false 1 := ⟨fun w => by kernel_rfl, fun w => by kernel_rfl⟩
instance : TInfo PP 157 8 := ⟨fun w => ⟨Try.t157, by rw [PP_def]; exact Try.typeInfo157 w, rfl⟩⟩
instance : TZero PP 157 [.nilFunc] := ⟨fun w => ⟨.nilFunc, by kernel_rfl, by kernel_rfl⟩⟩
instance : TZeroV PP 157 (.nilFunc) := ⟨fun w => by kernel_rfl⟩
instance : TShape PP 158 false 1 := ⟨fun w => by kernel_rfl, fun w => by kernel_rfl⟩
instance : TInfo PP 158 8 := ⟨fun w => ⟨Try.t158, by rw [PP_def]; exact Try.typeInfo158 w, rfl⟩⟩
instance : TZero PP 158 [.nilFunc] := ⟨fun w => ⟨.nilFunc, by kernel_rfl, by kernel_rfl⟩⟩
instance : TZeroV PP 158 (.nilFunc) := ⟨fun w => by kernel_rfl⟩
instance : TShape PP 159 true 4 := ⟨fun w => by kernel_rfl, fun w => by kernel_rfl⟩
instance : TInfo PP 159 40 := ⟨fun w => ⟨Try.t159, by rw [PP_def]; exact Try.typeInfo159 w, rfl⟩⟩
instance : TZero PP 159 [.pointer none, .pointer none, .pointer none, .string ByteArray.empty] := ⟨fun w => ⟨.agg #[.pointer none, .pointer none, .pointer none, .string ByteArray.empty], by kernel_rfl, by kernel_rfl⟩⟩
instance : TZeroV PP 159 (.agg #[.pointer none, .pointer none, .pointer none, .string ByteArray.empty]) := ⟨fun w => by kernel_rfl⟩
instance : TStruct PP 159 [.pointer none, .pointer none, .pointer none, .string ByteArray.empty] [(0, 1), (1, 1), (2, 1), (3, 1)] := ⟨⟨_, by rw [PP_def]; exact Try.underlying159, fun w => by kernel_rfl⟩, fun w => ⟨.agg #[.pointer none, .pointer none, .pointer none, .string ByteArray.empty], by kernel_rfl, by kernel_rfl⟩⟩
instance : TField PP 159 0 0 := ⟨fun b o w => by kernel_rfl⟩
instance : TPart PP 159 0 false 0 1 := part_lemma (ft := 17) (by rw [PP_def]; exact Try.underlying159) rfl rfl rfl
instance : TField PP 159 1 1 := ⟨fun b o w => by kernel_rfl⟩
instance : TPart PP 159 1 false 1 1 := part_lemma (ft := 17) (by rw [PP_def]; exact Try.underlying159) rfl rfl rfl
instance : TField PP 159 2 2 := ⟨fun b o w => by kernel_rfl⟩
instance : TPart PP 159 2 false 2 1 := part_lemma (ft := 17) (by rw [PP_def]; exact Try.underlying159) rfl rfl rfl
instance : TField PP 159 3 3 := ⟨fun b o w => by kernel_rfl⟩
instance : TPart PP 159 3 false 3 1 := part_lemma (ft := 9) (by rw [PP_def]; exact Try.underlying159) rfl rfl rfl
instance : TShape PP 160 true 4 := ⟨fun w => by kernel_rfl, fun w => by kernel_rfl⟩
instance : TInfo PP 160 40 := ⟨fun w => ⟨Try.t160, by rw [PP_def]; exact Try.typeInfo160 w, rfl⟩⟩
instance : TZero PP 160 [.pointer none, .pointer none, .pointer none, .string ByteArray.empty] := ⟨fun w => ⟨.agg #[.pointer none, .pointer none, .pointer none, .string ByteArray.empty], by kernel_rfl, by kernel_rfl⟩⟩
instance : TZeroV PP 160 (.agg #[.pointer none, .pointer none, .pointer none, .string ByteArray.empty]) := ⟨fun w => by kernel_rfl⟩
instance : TStruct PP 160 [.pointer none, .pointer none, .pointer none, .string ByteArray.empty] [(0, 1), (1, 1), (2, 1), (3, 1)] := ⟨⟨_, by rw [PP_def]; exact Try.underlying160, fun w => by kernel_rfl⟩, fun w => ⟨.agg #[.pointer none, .pointer none, .pointer none, .string ByteArray.empty], by kernel_rfl, by kernel_rfl⟩⟩
instance : TField PP 160 0 0 := ⟨fun b o w => by kernel_rfl⟩
instance : TPart PP 160 0 false 0 1 := part_lemma (ft := 17) (by rw [PP_def]; exact Try.underlying160) rfl rfl rfl
instance : TField PP 160 1 1 := ⟨fun b o w => by kernel_rfl⟩
instance : TPart PP 160 1 false 1 1 := part_lemma (ft := 17) (by rw [PP_def]; exact Try.underlying160) rfl rfl rfl
instance : TField PP 160 2 2 := ⟨fun b o w => by kernel_rfl⟩
instance : TPart PP 160 2 false 2 1 := part_lemma (ft := 17) (by rw [PP_def]; exact Try.underlying160) rfl rfl rfl
instance : TField PP 160 3 3 := ⟨fun b o w => by kernel_rfl⟩
instance : TPart PP 160 3 false 3 1 := part_lemma (ft := 9) (by rw [PP_def]; exact Try.underlying160) rfl rfl rfl
instance : TShape PP 161 true 0 := ⟨fun w => by kernel_rfl, fun w => by kernel_rfl⟩
instance : TInfo PP 161 0 := ⟨fun w => ⟨Try.t161, by rw [PP_def]; exact Try.typeInfo161 w, rfl⟩⟩
instance : TZero PP 161 [] := ⟨fun w => ⟨.agg #[], by kernel_rfl, by kernel_rfl⟩⟩
instance : TZeroV PP 161 (.agg #[]) := ⟨fun w => by kernel_rfl⟩
instance : TUnd PP 161 (.array 0 16) := ⟨by kernel_rfl⟩
instance : TShape PP 162 true 0 := ⟨fun w => by kernel_rfl, fun w => by kernel_rfl⟩
instance : TInfo PP 162 0 := ⟨fun w => ⟨Try.t162, by rw [PP_def]; exact Try.typeInfo162 w, rfl⟩⟩
instance : TZero PP 162 [] := ⟨fun w => ⟨.agg #[], by kernel_rfl, by kernel_rfl⟩⟩
instance : TZeroV PP 162 (.agg #[]) := ⟨fun w => by kernel_rfl⟩
instance : TShape PP 163 true 0 := ⟨fun w => by kernel_rfl, fun w => by kernel_rfl⟩
instance : TInfo PP 163 0 := ⟨fun w => ⟨Try.t163, by rw [PP_def]; exact Try.typeInfo163 w, rfl⟩⟩
instance : TZero PP 163 [] := ⟨fun w => ⟨.agg #[], by kernel_rfl, by kernel_rfl⟩⟩
instance : TZeroV PP 163 (.agg #[]) := ⟨fun w => by kernel_rfl⟩
instance : TShape PP 164 false 1 := ⟨fun w => by kernel_rfl, fun w => by kernel_rfl⟩
instance : TInfo PP 164 1 := ⟨fun w => ⟨Try.t164, by rw [PP_def]; exact Try.typeInfo164 w, rfl⟩⟩
instance : TZero PP 164 [.int .u8 0] := ⟨fun w => ⟨.int .u8 0, by kernel_rfl, by kernel_rfl⟩⟩
instance : TZeroV PP 164 (.int .u8 0) := ⟨fun w => by kernel_rfl⟩
instance : TUnd PP 164 (.int (.u8)) := ⟨by kernel_rfl⟩
instance : TShape PP 165 false 1 := ⟨fun w => by kernel_rfl, fun w => by kernel_rfl⟩
instance : TInfo PP 165 1 := ⟨fun w => ⟨Try.t165, by rw [PP_def]; exact Try.typeInfo165 w, rfl⟩⟩
instance : TZero PP 165 [.int .u8 0] := ⟨fun w => ⟨.int .u8 0, by kernel_rfl, by kernel_rfl⟩⟩
instance : TZeroV PP 165 (.int .u8 0) := ⟨fun w => by kernel_rfl⟩
instance : TUnd PP 165 (.int (.u8)) := ⟨by kernel_rfl⟩
instance : TShape PP 166 false 1 := ⟨fun w => by kernel_rfl, fun w => by kernel_rfl⟩
instance : TInfo PP 166 8 := ⟨fun w => ⟨Try.t166, by rw [PP_def]; exact Try.typeInfo166 w, rfl⟩⟩
instance : TZero PP 166 [.nilFunc] := ⟨fun w => ⟨.nilFunc, by kernel_rfl, by kernel_rfl⟩⟩
instance : TZeroV PP 166 (.nilFunc) := ⟨fun w => by kernel_rfl⟩
instance : TShape PP 167 false 1 := ⟨fun w => by kernel_rfl, fun w => by kernel_rfl⟩
instance : TInfo PP 167 8 := ⟨fun w => ⟨Try.t167, by rw [PP_def]; exact Try.typeInfo167 w, rfl⟩⟩
instance : TZero PP 167 [.pointer none] := ⟨fun w => ⟨.pointer none, by kernel_rfl, by kernel_rfl⟩⟩
instance : TZeroV PP 167 (.pointer none) := ⟨fun w => by kernel_rfl⟩
instance : TUnd PP 167 (.pointer 5) := ⟨by kernel_rfl⟩
instance : TShape PP 168 false 1 := ⟨fun w => by kernel_rfl, fun w => by kernel_rfl⟩
instance : TInfo PP 168 4 := ⟨fun w => ⟨Try.t168, by rw [PP_def]; exact Try.typeInfo168 w, rfl⟩⟩
instance : TZero PP 168 [.int .i32 0] := ⟨fun w => ⟨.int .i32 0, by kernel_rfl, by kernel_rfl⟩⟩
instance : TZeroV PP 168 (.int .i32 0) := ⟨fun w => by kernel_rfl⟩
instance : TUnd PP 168 (.int (.i32)) := ⟨by kernel_rfl⟩
instance : TShape PP 169 false 1 := ⟨fun w => by kernel_rfl, fun w => by kernel_rfl⟩
instance : TInfo PP 169 4 := ⟨fun w => ⟨Try.t169, by rw [PP_def]; exact Try.typeInfo169 w, rfl⟩⟩
instance : TZero PP 169 [.int .i32 0] := ⟨fun w => ⟨.int .i32 0, by kernel_rfl, by kernel_rfl⟩⟩
instance : TZeroV PP 169 (.int .i32 0) := ⟨fun w => by kernel_rfl⟩
instance : TUnd PP 169 (.int (.i32)) := ⟨by kernel_rfl⟩
instance : TShape PP 170 true 11 := ⟨fun w => by kernel_rfl, fun w => by kernel_rfl⟩
instance : TInfo PP 170 48 := ⟨fun w => ⟨Try.t170, by rw [PP_def]; exact Try.typeInfo170 w, rfl⟩⟩
instance : TZero PP 170 [.int .u64 0, .int .u64 0, .int .u32 0, .int .u8 0, .int .u8 0, .int .u8 0, .int .u8 0, .nilFunc, .pointer none, .int .i32 0, .int .i32 0] := ⟨fun w => ⟨.agg #[.int .u64 0, .int .u64 0, .int .u32 0, .int .u8 0, .int .u8 0, .int .u8 0, .int .u8 0, .nilFunc, .pointer none, .int .i32 0, .int .i32 0], by kernel_rfl, by kernel_rfl⟩⟩
instance : TZeroV PP 170 (.agg #[.int .u64 0, .int .u64 0, .int .u32 0, .int .u8 0, .int .u8 0, .int .u8 0, .int .u8 0, .nilFunc, .pointer none, .int .i32 0, .int .i32 0]) := ⟨fun w => by kernel_rfl⟩
instance : TStruct PP 170 [.int .u64 0, .int .u64 0, .int .u32 0, .int .u8 0, .int .u8 0, .int .u8 0, .int .u8 0, .nilFunc, .pointer none, .int .i32 0, .int .i32 0] [(0, 1), (1, 1), (2, 1), (3, 1), (4, 1), (5, 1), (6, 1), (7, 1), (8, 1), (9, 1), (10, 1)] := ⟨⟨_, by rw [PP_def]; exact Try.underlying170, fun w => by kernel_rfl⟩, fun w => ⟨.agg #[.int .u64 0, .int .u64 0, .int .u32 0, .int .u8 0, .int .u8 0, .int .u8 0, .int .u8 0, .nilFunc, .pointer none, .int .i32 0, .int .i32 0], by kernel_rfl, by kernel_rfl⟩⟩
instance : TField PP 170 0 0 := ⟨fun b o w => by kernel_rfl⟩
instance : TPart PP 170 0 false 0 1 := part_lemma (ft := 12) (by rw [PP_def]; exact Try.underlying170) rfl rfl rfl
instance : TField PP 170 1 1 := ⟨fun b o w => by kernel_rfl⟩
instance : TPart PP 170 1 false 1 1 := part_lemma (ft := 12) (by rw [PP_def]; exact Try.underlying170) rfl rfl rfl
instance : TField PP 170 2 2 := ⟨fun b o w => by kernel_rfl⟩
instance : TPart PP 170 2 false 2 1 := part_lemma (ft := 46) (by rw [PP_def]; exact Try.underlying170) rfl rfl rfl
instance : TField PP 170 3 3 := ⟨fun b o w => by kernel_rfl⟩
instance : TPart PP 170 3 false 3 1 := part_lemma (ft := 164) (by rw [PP_def]; exact Try.underlying170) rfl rfl rfl
instance : TField PP 170 4 4 := ⟨fun b o w => by kernel_rfl⟩
instance : TPart PP 170 4 false 4 1 := part_lemma (ft := 5) (by rw [PP_def]; exact Try.underlying170) rfl rfl rfl
instance : TField PP 170 5 5 := ⟨fun b o w => by kernel_rfl⟩
instance : TPart PP 170 5 false 5 1 := part_lemma (ft := 5) (by rw [PP_def]; exact Try.underlying170) rfl rfl rfl
instance : TField PP 170 6 6 := ⟨fun b o w => by kernel_rfl⟩
instance : TPart PP 170 6 false 6 1 := part_lemma (ft := 165) (by rw [PP_def]; exact Try.underlying170) rfl rfl rfl
instance : TField PP 170 7 7 := ⟨fun b o w => by kernel_rfl⟩
instance : TPart PP 170 7 false 7 1 := part_lemma (ft := 166) (by rw [PP_def]; exact Try.underlying170) rfl rfl rfl
instance : TField PP 170 8 8 := ⟨fun b o w => by kernel_rfl⟩
instance : TPart PP 170 8 false 8 1 := part_lemma (ft := 167) (by rw [PP_def]; exact Try.underlying170) rfl rfl rfl
instance : TField PP 170 9 9 := ⟨fun b o w => by kernel_rfl⟩
instance : TPart PP 170 9 false 9 1 := part_lemma (ft := 168) (by rw [PP_def]; exact Try.underlying170) rfl rfl rfl
instance : TField PP 170 10 10 := ⟨fun b o w => by kernel_rfl⟩
instance : TPart PP 170 10 false 10 1 := part_lemma (ft := 169) (by rw [PP_def]; exact Try.underlying170) rfl rfl rfl
instance : TShape PP 171 true 11 := ⟨fun w => by kernel_rfl, fun w => by kernel_rfl⟩
instance : TInfo PP 171 48 := ⟨fun w => ⟨Try.t171, by rw [PP_def]; exact Try.typeInfo171 w, rfl⟩⟩
instance : TZero PP 171 [.int .u64 0, .int .u64 0, .int .u32 0, .int .u8 0, .int .u8 0, .int .u8 0, .int .u8 0, .nilFunc, .pointer none, .int .i32 0, .int .i32 0] := ⟨fun w => ⟨.agg #[.int .u64 0, .int .u64 0, .int .u32 0, .int .u8 0, .int .u8 0, .int .u8 0, .int .u8 0, .nilFunc, .pointer none, .int .i32 0, .int .i32 0], by kernel_rfl, by kernel_rfl⟩⟩
instance : TZeroV PP 171 (.agg #[.int .u64 0, .int .u64 0, .int .u32 0, .int .u8 0, .int .u8 0, .int .u8 0, .int .u8 0, .nilFunc, .pointer none, .int .i32 0, .int .i32 0]) := ⟨fun w => by kernel_rfl⟩
instance : TStruct PP 171 [.int .u64 0, .int .u64 0, .int .u32 0, .int .u8 0, .int .u8 0, .int .u8 0, .int .u8 0, .nilFunc, .pointer none, .int .i32 0, .int .i32 0] [(0, 1), (1, 1), (2, 1), (3, 1), (4, 1), (5, 1), (6, 1), (7, 1), (8, 1), (9, 1), (10, 1)] := ⟨⟨_, by rw [PP_def]; exact Try.underlying171, fun w => by kernel_rfl⟩, fun w => ⟨.agg #[.int .u64 0, .int .u64 0, .int .u32 0, .int .u8 0, .int .u8 0, .int .u8 0, .int .u8 0, .nilFunc, .pointer none, .int .i32 0, .int .i32 0], by kernel_rfl, by kernel_rfl⟩⟩
instance : TField PP 171 0 0 := ⟨fun b o w => by kernel_rfl⟩
instance : TPart PP 171 0 false 0 1 := part_lemma (ft := 12) (by rw [PP_def]; exact Try.underlying171) rfl rfl rfl
instance : TField PP 171 1 1 := ⟨fun b o w => by kernel_rfl⟩
instance : TPart PP 171 1 false 1 1 := part_lemma (ft := 12) (by rw [PP_def]; exact Try.underlying171) rfl rfl rfl
instance : TField PP 171 2 2 := ⟨fun b o w => by kernel_rfl⟩
instance : TPart PP 171 2 false 2 1 := part_lemma (ft := 46) (by rw [PP_def]; exact Try.underlying171) rfl rfl rfl
instance : TField PP 171 3 3 := ⟨fun b o w => by kernel_rfl⟩
instance : TPart PP 171 3 false 3 1 := part_lemma (ft := 164) (by rw [PP_def]; exact Try.underlying171) rfl rfl rfl
instance : TField PP 171 4 4 := ⟨fun b o w => by kernel_rfl⟩
instance : TPart PP 171 4 false 4 1 := part_lemma (ft := 5) (by rw [PP_def]; exact Try.underlying171) rfl rfl rfl
instance : TField PP 171 5 5 := ⟨fun b o w => by kernel_rfl⟩
instance : TPart PP 171 5 false 5 1 := part_lemma (ft := 5) (by rw [PP_def]; exact Try.underlying171) rfl rfl rfl
instance : TField PP 171 6 6 := ⟨fun b o w => by kernel_rfl⟩
instance : TPart PP 171 6 false 6 1 := part_lemma (ft := 165) (by rw [PP_def]; exact Try.underlying171) rfl rfl rfl
instance : TField PP 171 7 7 := ⟨fun b o w => by kernel_rfl⟩
instance : TPart PP 171 7 false 7 1 := part_lemma (ft := 166) (by rw [PP_def]; exact Try.underlying171) rfl rfl rfl
instance : TField PP 171 8 8 := ⟨fun b o w => by kernel_rfl⟩
instance : TPart PP 171 8 false 8 1 := part_lemma (ft := 167) (by rw [PP_def]; exact Try.underlying171) rfl rfl rfl
instance : TField PP 171 9 9 := ⟨fun b o w => by kernel_rfl⟩
instance : TPart PP 171 9 false 9 1 := part_lemma (ft := 168) (by rw [PP_def]; exact Try.underlying171) rfl rfl rfl
instance : TField PP 171 10 10 := ⟨fun b o w => by kernel_rfl⟩
instance : TPart PP 171 10 false 10 1 := part_lemma (ft := 169) (by rw [PP_def]; exact Try.underlying171) rfl rfl rfl
instance : TShape PP 172 false 1 := ⟨fun w => by kernel_rfl, fun w => by kernel_rfl⟩
instance : TInfo PP 172 8 := ⟨fun w => ⟨Try.t172, by rw [PP_def]; exact Try.typeInfo172 w, rfl⟩⟩
instance : TZero PP 172 [.nilFunc] := ⟨fun w => ⟨.nilFunc, by kernel_rfl, by kernel_rfl⟩⟩
instance : TZeroV PP 172 (.nilFunc) := ⟨fun w => by kernel_rfl⟩
instance : TShape PP 173 false 1 := ⟨fun w => by kernel_rfl, fun w => by kernel_rfl⟩
instance : TInfo PP 173 8 := ⟨fun w => ⟨Try.t173, by rw [PP_def]; exact Try.typeInfo173 w, rfl⟩⟩
instance : TZero PP 173 [.pointer none] := ⟨fun w => ⟨.pointer none, by kernel_rfl, by kernel_rfl⟩⟩
instance : TZeroV PP 173 (.pointer none) := ⟨fun w => by kernel_rfl⟩
instance : TShape PP 174 false 1 := ⟨fun w => by kernel_rfl, fun w => by kernel_rfl⟩
instance : TInfo PP 174 8 := ⟨fun w => ⟨Try.t174, by rw [PP_def]; exact Try.typeInfo174 w, rfl⟩⟩
instance : TZero PP 174 [.map none] := ⟨fun w => ⟨.map none, by kernel_rfl, by kernel_rfl⟩⟩
instance : TZeroV PP 174 (.map none) := ⟨fun w => by kernel_rfl⟩
instance : TUnd PP 174 (.map 27 2) := ⟨by kernel_rfl⟩
theorem en2 : Enters PP 2 := fun args w => by rw [PP_def]; exact Try.call2 args w
theorem fn2 : PP.funcs[2]? = some Try.f2 := by rw [PP_def]; exact Try.func2
theorem en3 : Enters PP 3 := fun args w => by rw [PP_def]; exact Try.call3 args w
theorem fn3 : PP.funcs[3]? = some Try.f3 := by rw [PP_def]; exact Try.func3
theorem en4 : Enters PP 4 := fun args w => by rw [PP_def]; exact Try.call4 args w
theorem fn4 : PP.funcs[4]? = some Try.f4 := by rw [PP_def]; exact Try.func4
theorem en5 : Enters PP 5 := fun args w => by rw [PP_def]; exact Try.call5 args w
theorem fn5 : PP.funcs[5]? = some Try.f5 := by rw [PP_def]; exact Try.func5
theorem en6 : Enters PP 6 := fun args w => by rw [PP_def]; exact Try.call6 args w
theorem fn6 : PP.funcs[6]? = some Try.f6 := by rw [PP_def]; exact Try.func6
theorem en7 : Enters PP 7 := fun args w => by rw [PP_def]; exact Try.call7 args w
theorem fn7 : PP.funcs[7]? = some Try.f7 := by rw [PP_def]; exact Try.func7
theorem en8 : Enters PP 8 := fun args w => by rw [PP_def]; exact Try.call8 args w
theorem fn8 : PP.funcs[8]? = some Try.f8 := by rw [PP_def]; exact Try.func8
theorem en9 : Enters PP 9 := fun args w => by rw [PP_def]; exact Try.call9 args w
theorem fn9 : PP.funcs[9]? = some Try.f9 := by rw [PP_def]; exact Try.func9
theorem en10 : Enters PP 10 := fun args w => by rw [PP_def]; exact Try.call10 args w
theorem fn10 : PP.funcs[10]? = some Try.f10 := by rw [PP_def]; exact Try.func10
theorem en11 : Enters PP 11 := fun args w => by rw [PP_def]; exact Try.call11 args w
theorem fn11 : PP.funcs[11]? = some Try.f11 := by rw [PP_def]; exact Try.func11
theorem en12 : Enters PP 12 := fun args w => by rw [PP_def]; exact Try.call12 args w
theorem fn12 : PP.funcs[12]? = some Try.f12 := by rw [PP_def]; exact Try.func12
theorem en13 : Enters PP 13 := fun args w => by rw [PP_def]; exact Try.call13 args w
theorem fn13 : PP.funcs[13]? = some Try.f13 := by rw [PP_def]; exact Try.func13
theorem en14 : Enters PP 14 := fun args w => by rw [PP_def]; exact Try.call14 args w
theorem fn14 : PP.funcs[14]? = some Try.f14 := by rw [PP_def]; exact Try.func14
theorem en15 : Enters PP 15 := fun args w => by rw [PP_def]; exact Try.call15 args w
theorem fn15 : PP.funcs[15]? = some Try.f15 := by rw [PP_def]; exact Try.func15
theorem en16 : Enters PP 16 := fun args w => by rw [PP_def]; exact Try.call16 args w
theorem fn16 : PP.funcs[16]? = some Try.f16 := by rw [PP_def]; exact Try.func16
theorem en17 : Enters PP 17 := fun args w => by rw [PP_def]; exact Try.call17 args w
theorem fn17 : PP.funcs[17]? = some Try.f17 := by rw [PP_def]; exact Try.func17
theorem en18 : Enters PP 18 := fun args w => by rw [PP_def]; exact Try.call18 args w
theorem fn18 : PP.funcs[18]? = some Try.f18 := by rw [PP_def]; exact Try.func18
theorem en19 : Enters PP 19 := fun args w => by rw [PP_def]; exact Try.call19 args w
theorem fn19 : PP.funcs[19]? = some Try.f19 := by rw [PP_def]; exact Try.func19
theorem en20 : Enters PP 20 := fun args w => by rw [PP_def]; exact Try.call20 args w
theorem fn20 : PP.funcs[20]? = some Try.f20 := by rw [PP_def]; exact Try.func20
theorem en21 : Enters PP 21 := fun args w => by rw [PP_def]; exact Try.call21 args w
theorem fn21 : PP.funcs[21]? = some Try.f21 := by rw [PP_def]; exact Try.func21
theorem en22 : Enters PP 22 := fun args w => by rw [PP_def]; exact Try.call22 args w
theorem fn22 : PP.funcs[22]? = some Try.f22 := by rw [PP_def]; exact Try.func22
theorem en23 : Enters PP 23 := fun args w => by rw [PP_def]; exact Try.call23 args w
theorem fn23 : PP.funcs[23]? = some Try.f23 := by rw [PP_def]; exact Try.func23
theorem en24 : Enters PP 24 := fun args w => by rw [PP_def]; exact Try.call24 args w
theorem fn24 : PP.funcs[24]? = some Try.f24 := by rw [PP_def]; exact Try.func24
theorem en25 : Enters PP 25 := fun args w => by rw [PP_def]; exact Try.call25 args w
theorem fn25 : PP.funcs[25]? = some Try.f25 := by rw [PP_def]; exact Try.func25
theorem en26 : Enters PP 26 := fun args w => by rw [PP_def]; exact Try.call26 args w
theorem fn26 : PP.funcs[26]? = some Try.f26 := by rw [PP_def]; exact Try.func26
theorem en27 : Enters PP 27 := fun args w => by rw [PP_def]; exact Try.call27 args w
theorem fn27 : PP.funcs[27]? = some Try.f27 := by rw [PP_def]; exact Try.func27
theorem en28 : Enters PP 28 := fun args w => by rw [PP_def]; exact Try.call28 args w
theorem fn28 : PP.funcs[28]? = some Try.f28 := by rw [PP_def]; exact Try.func28
theorem en29 : Enters PP 29 := fun args w => by rw [PP_def]; exact Try.call29 args w
theorem fn29 : PP.funcs[29]? = some Try.f29 := by rw [PP_def]; exact Try.func29
theorem en30 : Enters PP 30 := fun args w => by rw [PP_def]; exact Try.call30 args w
theorem fn30 : PP.funcs[30]? = some Try.f30 := by rw [PP_def]; exact Try.func30
theorem en31 : Enters PP 31 := fun args w => by rw [PP_def]; exact Try.call31 args w
theorem fn31 : PP.funcs[31]? = some Try.f31 := by rw [PP_def]; exact Try.func31
theorem en32 : Enters PP 32 := fun args w => by rw [PP_def]; exact Try.call32 args w
theorem fn32 : PP.funcs[32]? = some Try.f32 := by rw [PP_def]; exact Try.func32
theorem en33 : Enters PP 33 := fun args w => by rw [PP_def]; exact Try.call33 args w
theorem fn33 : PP.funcs[33]? = some Try.f33 := by rw [PP_def]; exact Try.func33
theorem en34 : Enters PP 34 := fun args w => by rw [PP_def]; exact Try.call34 args w
theorem fn34 : PP.funcs[34]? = some Try.f34 := by rw [PP_def]; exact Try.func34
theorem en35 : Enters PP 35 := fun args w => by rw [PP_def]; exact Try.call35 args w
theorem fn35 : PP.funcs[35]? = some Try.f35 := by rw [PP_def]; exact Try.func35
theorem en36 : Enters PP 36 := fun args w => by rw [PP_def]; exact Try.call36 args w
theorem fn36 : PP.funcs[36]? = some Try.f36 := by rw [PP_def]; exact Try.func36
theorem en37 : Enters PP 37 := fun args w => by rw [PP_def]; exact Try.call37 args w
theorem fn37 : PP.funcs[37]? = some Try.f37 := by rw [PP_def]; exact Try.func37
theorem en38 : Enters PP 38 := fun args w => by rw [PP_def]; exact Try.call38 args w
theorem fn38 : PP.funcs[38]? = some Try.f38 := by rw [PP_def]; exact Try.func38
theorem en39 : Enters PP 39 := fun args w => by rw [PP_def]; exact Try.call39 args w
theorem fn39 : PP.funcs[39]? = some Try.f39 := by rw [PP_def]; exact Try.func39
theorem en40 : Enters PP 40 := fun args w => by rw [PP_def]; exact Try.call40 args w
theorem fn40 : PP.funcs[40]? = some Try.f40 := by rw [PP_def]; exact Try.func40
theorem en41 : Enters PP 41 := fun args w => by rw [PP_def]; exact Try.call41 args w
theorem fn41 : PP.funcs[41]? = some Try.f41 := by rw [PP_def]; exact Try.func41
theorem en42 : Enters PP 42 := fun args w => by rw [PP_def]; exact Try.call42 args w
theorem fn42 : PP.funcs[42]? = some Try.f42 := by rw [PP_def]; exact Try.func42
theorem en43 : Enters PP 43 := fun args w => by rw [PP_def]; exact Try.call43 args w
theorem fn43 : PP.funcs[43]? = some Try.f43 := by rw [PP_def]; exact Try.func43
theorem en44 : Enters PP 44 := fun args w => by rw [PP_def]; exact Try.call44 args w
theorem fn44 : PP.funcs[44]? = some Try.f44 := by rw [PP_def]; exact Try.func44
theorem en45 : Enters PP 45 := fun args w => by rw [PP_def]; exact Try.call45 args w
theorem fn45 : PP.funcs[45]? = some Try.f45 := by rw [PP_def]; exact Try.func45
theorem en46 : Enters PP 46 := fun args w => by rw [PP_def]; exact Try.call46 args w
theorem fn46 : PP.funcs[46]? = some Try.f46 := by rw [PP_def]; exact Try.func46
theorem en47 : Enters PP 47 := fun args w => by rw [PP_def]; exact Try.call47 args w
theorem fn47 : PP.funcs[47]? = some Try.f47 := by rw [PP_def]; exact Try.func47
theorem en48 : Enters PP 48 := fun args w => by rw [PP_def]; exact Try.call48 args w
theorem fn48 : PP.funcs[48]? = some Try.f48 := by rw [PP_def]; exact Try.func48
theorem en49 : Enters PP 49 := fun args w => by rw [PP_def]; exact Try.call49 args w
theorem fn49 : PP.funcs[49]? = some Try.f49 := by rw [PP_def]; exact Try.func49
theorem en50 : Enters PP 50 := fun args w => by rw [PP_def]; exact Try.call50 args w
theorem fn50 : PP.funcs[50]? = some Try.f50 := by rw [PP_def]; exact Try.func50
theorem en51 : Enters PP 51 := fun args w => by rw [PP_def]; exact Try.call51 args w
theorem fn51 : PP.funcs[51]? = some Try.f51 := by rw [PP_def]; exact Try.func51
theorem en52 : Enters PP 52 := fun args w => by rw [PP_def]; exact Try.call52 args w
theorem fn52 : PP.funcs[52]? = some Try.f52 := by rw [PP_def]; exact Try.func52
theorem en53 : Enters PP 53 := fun args w => by rw [PP_def]; exact Try.call53 args w
theorem fn53 : PP.funcs[53]? = some Try.f53 := by rw [PP_def]; exact Try.func53
theorem en54 : Enters PP 54 := fun args w => by rw [PP_def]; exact Try.call54 args w
theorem fn54 : PP.funcs[54]? = some Try.f54 := by rw [PP_def]; exact Try.func54
theorem en55 : Enters PP 55 := fun args w => by rw [PP_def]; exact Try.call55 args w
theorem fn55 : PP.funcs[55]? = some Try.f55 := by rw [PP_def]; exact Try.func55
theorem en56 : Enters PP 56 := fun args w => by rw [PP_def]; exact Try.call56 args w
theorem fn56 : PP.funcs[56]? = some Try.f56 := by rw [PP_def]; exact Try.func56
theorem en57 : Enters PP 57 := fun args w => by rw [PP_def]; exact Try.call57 args w
theorem fn57 : PP.funcs[57]? = some Try.f57 := by rw [PP_def]; exact Try.func57
theorem en58 : Enters PP 58 := fun args w => by rw [PP_def]; exact Try.call58 args w
theorem fn58 : PP.funcs[58]? = some Try.f58 := by rw [PP_def]; exact Try.func58
theorem en59 : Enters PP 59 := fun args w => by rw [PP_def]; exact Try.call59 args w
theorem fn59 : PP.funcs[59]? = some Try.f59 := by rw [PP_def]; exact Try.func59
theorem en60 : Enters PP 60 := fun args w => by rw [PP_def]; exact Try.call60 args w
theorem fn60 : PP.funcs[60]? = some Try.f60 := by rw [PP_def]; exact Try.func60
theorem en61 : Enters PP 61 := fun args w => by rw [PP_def]; exact Try.call61 args w
theorem fn61 : PP.funcs[61]? = some Try.f61 := by rw [PP_def]; exact Try.func61
theorem en62 : Enters PP 62 := fun args w => by rw [PP_def]; exact Try.call62 args w
theorem fn62 : PP.funcs[62]? = some Try.f62 := by rw [PP_def]; exact Try.func62
theorem en63 : Enters PP 63 := fun args w => by rw [PP_def]; exact Try.call63 args w
theorem fn63 : PP.funcs[63]? = some Try.f63 := by rw [PP_def]; exact Try.func63
theorem en64 : Enters PP 64 := fun args w => by rw [PP_def]; exact Try.call64 args w
theorem fn64 : PP.funcs[64]? = some Try.f64 := by rw [PP_def]; exact Try.func64
theorem en65 : Enters PP 65 := fun args w => by rw [PP_def]; exact Try.call65 args w
theorem fn65 : PP.funcs[65]? = some Try.f65 := by rw [PP_def]; exact Try.func65
theorem en66 : Enters PP 66 := fun args w => by rw [PP_def]; exact Try.call66 args w
theorem fn66 : PP.funcs[66]? = some Try.f66 := by rw [PP_def]; exact Try.func66
theorem en67 : Enters PP 67 := fun args w => by rw [PP_def]; exact Try.call67 args w
theorem fn67 : PP.funcs[67]? = some Try.f67 := by rw [PP_def]; exact Try.func67
theorem en68 : Enters PP 68 := fun args w => by rw [PP_def]; exact Try.call68 args w
theorem fn68 : PP.funcs[68]? = some Try.f68 := by rw [PP_def]; exact Try.func68
theorem en69 : Enters PP 69 := fun args w => by rw [PP_def]; exact Try.call69 args w
theorem fn69 : PP.funcs[69]? = some Try.f69 := by rw [PP_def]; exact Try.func69
theorem en70 : Enters PP 70 := fun args w => by rw [PP_def]; exact Try.call70 args w
theorem fn70 : PP.funcs[70]? = some Try.f70 := by rw [PP_def]; exact Try.func70
theorem en71 : Enters PP 71 := fun args w => by rw [PP_def]; exact Try.call71 args w
theorem fn71 : PP.funcs[71]? = some Try.f71 := by rw [PP_def]; exact Try.func71
theorem en72 : Enters PP 72 := fun args w => by rw [PP_def]; exact Try.call72 args w
theorem fn72 : PP.funcs[72]? = some Try.f72 := by rw [PP_def]; exact Try.func72
theorem en73 : Enters PP 73 := fun args w => by rw [PP_def]; exact Try.call73 args w
theorem fn73 : PP.funcs[73]? = some Try.f73 := by rw [PP_def]; exact Try.func73
theorem en74 : Enters PP 74 := fun args w => by rw [PP_def]; exact Try.call74 args w
theorem fn74 : PP.funcs[74]? = some Try.f74 := by rw [PP_def]; exact Try.func74
theorem en75 : Enters PP 75 := fun args w => by rw [PP_def]; exact Try.call75 args w
theorem fn75 : PP.funcs[75]? = some Try.f75 := by rw [PP_def]; exact Try.func75
theorem en76 : Enters PP 76 := fun args w => by rw [PP_def]; exact Try.call76 args w
theorem fn76 : PP.funcs[76]? = some Try.f76 := by rw [PP_def]; exact Try.func76
theorem en77 : Enters PP 77 := fun args w => by rw [PP_def]; exact Try.call77 args w
theorem fn77 : PP.funcs[77]? = some Try.f77 := by rw [PP_def]; exact Try.func77
theorem en78 : Enters PP 78 := fun args w => by rw [PP_def]; exact Try.call78 args w
theorem fn78 : PP.funcs[78]? = some Try.f78 := by rw [PP_def]; exact Try.func78
theorem en79 : Enters PP 79 := fun args w => by rw [PP_def]; exact Try.call79 args w
theorem fn79 : PP.funcs[79]? = some Try.f79 := by rw [PP_def]; exact Try.func79
theorem en80 : Enters PP 80 := fun args w => by rw [PP_def]; exact Try.call80 args w
theorem fn80 : PP.funcs[80]? = some Try.f80 := by rw [PP_def]; exact Try.func80
theorem en81 : Enters PP 81 := fun args w => by rw [PP_def]; exact Try.call81 args w
theorem fn81 : PP.funcs[81]? = some Try.f81 := by rw [PP_def]; exact Try.func81
theorem en82 : Enters PP 82 := fun args w => by rw [PP_def]; exact Try.call82 args w
theorem fn82 : PP.funcs[82]? = some Try.f82 := by rw [PP_def]; exact Try.func82
theorem en83 : Enters PP 83 := fun args w => by rw [PP_def]; exact Try.call83 args w
theorem fn83 : PP.funcs[83]? = some Try.f83 := by rw [PP_def]; exact Try.func83
theorem en84 : Enters PP 84 := fun args w => by rw [PP_def]; exact Try.call84 args w
theorem fn84 : PP.funcs[84]? = some Try.f84 := by rw [PP_def]; exact Try.func84
theorem en85 : Enters PP 85 := fun args w => by rw [PP_def]; exact Try.call85 args w
theorem fn85 : PP.funcs[85]? = some Try.f85 := by rw [PP_def]; exact Try.func85
theorem en86 : Enters PP 86 := fun args w => by rw [PP_def]; exact Try.call86 args w
theorem fn86 : PP.funcs[86]? = some Try.f86 := by rw [PP_def]; exact Try.func86
theorem en87 : Enters PP 87 := fun args w => by rw [PP_def]; exact Try.call87 args w
theorem fn87 : PP.funcs[87]? = some Try.f87 := by rw [PP_def]; exact Try.func87
theorem en88 : Enters PP 88 := fun args w => by rw [PP_def]; exact Try.call88 args w
theorem fn88 : PP.funcs[88]? = some Try.f88 := by rw [PP_def]; exact Try.func88
theorem en89 : Enters PP 89 := fun args w => by rw [PP_def]; exact Try.call89 args w
theorem fn89 : PP.funcs[89]? = some Try.f89 := by rw [PP_def]; exact Try.func89
theorem en90 : Enters PP 90 := fun args w => by rw [PP_def]; exact Try.call90 args w
theorem fn90 : PP.funcs[90]? = some Try.f90 := by rw [PP_def]; exact Try.func90
theorem en91 : Enters PP 91 := fun args w => by rw [PP_def]; exact Try.call91 args w
theorem fn91 : PP.funcs[91]? = some Try.f91 := by rw [PP_def]; exact Try.func91
theorem en92 : Enters PP 92 := fun args w => by rw [PP_def]; exact Try.call92 args w
theorem fn92 : PP.funcs[92]? = some Try.f92 := by rw [PP_def]; exact Try.func92
theorem en93 : Enters PP 93 := fun args w => by rw [PP_def]; exact Try.call93 args w
theorem fn93 : PP.funcs[93]? = some Try.f93 := by rw [PP_def]; exact Try.func93
theorem en94 : Enters PP 94 := fun args w => by rw [PP_def]; exact Try.call94 args w
theorem fn94 : PP.funcs[94]? = some Try.f94 := by rw [PP_def]; exact Try.func94
theorem en95 : Enters PP 95 := fun args w => by rw [PP_def]; exact Try.call95 args w
theorem fn95 : PP.funcs[95]? = some Try.f95 := by rw [PP_def]; exact Try.func95
theorem en96 : Enters PP 96 := fun args w => by rw [PP_def]; exact Try.call96 args w
theorem fn96 : PP.funcs[96]? = some Try.f96 := by rw [PP_def]; exact Try.func96
theorem en97 : Enters PP 97 := fun args w => by rw [PP_def]; exact Try.call97 args w
theorem fn97 : PP.funcs[97]? = some Try.f97 := by rw [PP_def]; exact Try.func97
theorem en98 : Enters PP 98 := fun args w => by rw [PP_def]; exact Try.call98 args w
theorem fn98 : PP.funcs[98]? = some Try.f98 := by rw [PP_def]; exact Try.func98
theorem en99 : Enters PP 99 := fun args w => by rw [PP_def]; exact Try.call99 args w
theorem fn99 : PP.funcs[99]? = some Try.f99 := by rw [PP_def]; exact Try.func99
theorem en100 : Enters PP 100 := fun args w => by rw [PP_def]; exact Try.call100 args w
theorem fn100 : PP.funcs[100]? = some Try.f100 := by rw [PP_def]; exact Try.func100
theorem en101 : Enters PP 101 := fun args w => by rw [PP_def]; exact Try.call101 args w
theorem fn101 : PP.funcs[101]? = some Try.f101 := by rw [PP_def]; exact Try.func101
theorem en102 : Enters PP 102 := fun args w => by rw [PP_def]; exact Try.call102 args w
theorem fn102 : PP.funcs[102]? = some Try.f102 := by rw [PP_def]; exact Try.func102
theorem en103 : Enters PP 103 := fun args w => by rw [PP_def]; exact Try.call103 args w
theorem fn103 : PP.funcs[103]? = some Try.f103 := by rw [PP_def]; exact Try.func103
end Go.Proofs.Ytpcnbaddkblbhaa

