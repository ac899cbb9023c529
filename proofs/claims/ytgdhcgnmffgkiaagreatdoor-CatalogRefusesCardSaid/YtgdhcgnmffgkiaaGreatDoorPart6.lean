import Derived.Test.YtgdhcgnmffgkiaaGreatDoorPart5
import Derived.Test.YtgdhcgnmffgkiaaGreatDoorPart2
import Derived.Test.YtgdhcgnmffgkiaaGreatDoorKitA
import Derived.Test.YtgdhcgnmffgkiaaGreatDoorPart3
import Derived.Test.YtgdhcgnmffgkiaaGreatDoorPart4
/- Own work: lemmas of this claim. -/
namespace Go.Proofs.YtgdhcgnmffgkiaaGreatDoor
variable (w0 : World)
open Go.Vc Sim
abbrev MsR (w0 : World) (k : Int) (v : Value) (Γ : List Asn) : Prop := Γ = [Rds fun bl => RdSl w0 bl encM 4 v (msK k)]
theorem methods0 : Vc.Fn PP w0 [] 37 [.int .i64 0] [] (MsR w0 0) := by
 refine zep en37 fn37 rfl rfl rfl ?_
 repeat' first|refine zck ?_|refine zcl ?_|refine zyq ?_|(refine zap rfl ?_;first|refine zdt rfl rfl rfl rfl rfl rfl (fun nb => ?_)|refine zce rfl ?_|(refine zai [] (row_spec w0) rfl rfl rfl zdj ?_; rintro v Γ ⟨m1, s0, s1, s2, s3, s7, rfl, rfl⟩)|(refine zai [] (keyed_spec w0) rfl rfl rfl zdj ?_; rintro v Γ ⟨m2, s4, s5, s6, rfl, rfl⟩)|(refine zai [] (linked_spec w0) rfl rfl rfl zdj ?_; rintro v Γ ⟨m3, s8, s9, rfl, rfl⟩))|refine zp ?_|refine zch ?_
 refine zeb [13] rfl ?_
 refine zet ?_
 repeat' first|refine zck ?_|refine zcm ?_|refine zcl ?_|refine zyq ?_|(refine zap rfl ?_;first|refine zdx 7 (v := .tuple #[mSl s0 3, .bool true]) rfl rfl rfl rfl ?_|refine zbg rfl rfl (by omega) ?_|refine zas rfl rfl (by omega) ?_)|refine zp ?_|refine zyl 0 rfl ?_|refine zch ?_|refine zci rfl ?_
 refine zec [8] rfl ?_
 refine zef 0 (Rds fun bl => RdSl w0 bl encM 4 (mSl s0 3) (msK 0)) rfl (fun g hg => Rds.mono (fun bl hb => RdSl.flat (encE := encM) (q := 4) (w0 := w0) (b := s0) (l := ms0) (fun _ _ => rfl) hb) g (Rds.of_pt g hg)) rfl ?_
 exact zej rfl rfl
theorem methods1 : Vc.Fn PP w0 [] 37 [.int .i64 1] [] (MsR w0 1) := by
 refine zep en37 fn37 rfl rfl rfl ?_
 repeat' first|refine zck ?_|refine zcl ?_|refine zyq ?_|(refine zap rfl ?_;first|refine zdt rfl rfl rfl rfl rfl rfl (fun nb => ?_)|refine zce rfl ?_|(refine zai [] (row_spec w0) rfl rfl rfl zdj ?_; rintro v Γ ⟨m1, s0, s1, s2, s3, s7, rfl, rfl⟩)|(refine zai [] (keyed_spec w0) rfl rfl rfl zdj ?_; rintro v Γ ⟨m2, s4, s5, s6, rfl, rfl⟩)|(refine zai [] (linked_spec w0) rfl rfl rfl zdj ?_; rintro v Γ ⟨m3, s8, s9, rfl, rfl⟩))|refine zp ?_|refine zch ?_
 refine zeb [13] rfl ?_
 refine zet ?_
 repeat' first|refine zck ?_|refine zcm ?_|refine zcl ?_|refine zyq ?_|(refine zap rfl ?_;first|refine zdx 7 (v := .tuple #[mSl s1 4, .bool true]) rfl rfl rfl rfl ?_|refine zbg rfl rfl (by omega) ?_|refine zas rfl rfl (by omega) ?_)|refine zp ?_|refine zyl 0 rfl ?_|refine zch ?_|refine zci rfl ?_
 refine zec [9] rfl ?_
 refine zef 0 (Rds fun bl => RdSl w0 bl encM 4 (mSl s1 4) (msK 1)) rfl (fun g hg => Rds.mono (fun bl hb => RdSl.flat (encE := encM) (q := 4) (w0 := w0) (b := s1) (l := ms1) (fun _ _ => rfl) hb) g (Rds.of_pt g hg)) rfl ?_
 exact zej rfl rfl
theorem methods2 : Vc.Fn PP w0 [] 37 [.int .i64 2] [] (MsR w0 2) := by
 refine zep en37 fn37 rfl rfl rfl ?_
 repeat' first|refine zck ?_|refine zcl ?_|refine zyq ?_|(refine zap rfl ?_;first|refine zdt rfl rfl rfl rfl rfl rfl (fun nb => ?_)|refine zce rfl ?_|(refine zai [] (row_spec w0) rfl rfl rfl zdj ?_; rintro v Γ ⟨m1, s0, s1, s2, s3, s7, rfl, rfl⟩)|(refine zai [] (keyed_spec w0) rfl rfl rfl zdj ?_; rintro v Γ ⟨m2, s4, s5, s6, rfl, rfl⟩)|(refine zai [] (linked_spec w0) rfl rfl rfl zdj ?_; rintro v Γ ⟨m3, s8, s9, rfl, rfl⟩))|refine zp ?_|refine zch ?_
 refine zeb [13] rfl ?_
 refine zet ?_
 repeat' first|refine zck ?_|refine zcm ?_|refine zcl ?_|refine zyq ?_|(refine zap rfl ?_;first|refine zdx 7 (v := .tuple #[mSl s2 4, .bool true]) rfl rfl rfl rfl ?_|refine zbg rfl rfl (by omega) ?_|refine zas rfl rfl (by omega) ?_)|refine zp ?_|refine zyl 0 rfl ?_|refine zch ?_|refine zci rfl ?_
 refine zec [10] rfl ?_
 refine zef 0 (Rds fun bl => RdSl w0 bl encM 4 (mSl s2 4) (msK 2)) rfl (fun g hg => Rds.mono (fun bl hb => RdSl.flat (encE := encM) (q := 4) (w0 := w0) (b := s2) (l := ms2) (fun _ _ => rfl) hb) g (Rds.of_pt g hg)) rfl ?_
 exact zej rfl rfl
theorem methods3 : Vc.Fn PP w0 [] 37 [.int .i64 3] [] (MsR w0 3) := by
 refine zep en37 fn37 rfl rfl rfl ?_
 repeat' first|refine zck ?_|refine zcl ?_|refine zyq ?_|(refine zap rfl ?_;first|refine zdt rfl rfl rfl rfl rfl rfl (fun nb => ?_)|refine zce rfl ?_|(refine zai [] (row_spec w0) rfl rfl rfl zdj ?_; rintro v Γ ⟨m1, s0, s1, s2, s3, s7, rfl, rfl⟩)|(refine zai [] (keyed_spec w0) rfl rfl rfl zdj ?_; rintro v Γ ⟨m2, s4, s5, s6, rfl, rfl⟩)|(refine zai [] (linked_spec w0) rfl rfl rfl zdj ?_; rintro v Γ ⟨m3, s8, s9, rfl, rfl⟩))|refine zp ?_|refine zch ?_
 refine zeb [13] rfl ?_
 refine zet ?_
 repeat' first|refine zck ?_|refine zcm ?_|refine zcl ?_|refine zyq ?_|(refine zap rfl ?_;first|refine zdx 7 (v := .tuple #[mSl s3 7, .bool true]) rfl rfl rfl rfl ?_|refine zbg rfl rfl (by omega) ?_|refine zas rfl rfl (by omega) ?_)|refine zp ?_|refine zyl 0 rfl ?_|refine zch ?_|refine zci rfl ?_
 refine zec [11] rfl ?_
 refine zef 0 (Rds fun bl => RdSl w0 bl encM 4 (mSl s3 7) (msK 3)) rfl (fun g hg => Rds.mono (fun bl hb => RdSl.flat (encE := encM) (q := 4) (w0 := w0) (b := s3) (l := ms3) (fun _ _ => rfl) hb) g (Rds.of_pt g hg)) rfl ?_
 exact zej rfl rfl
theorem methods4 : Vc.Fn PP w0 [] 37 [.int .i64 4] [] (MsR w0 4) := by
 refine zep en37 fn37 rfl rfl rfl ?_
 repeat' first|refine zck ?_|refine zcl ?_|refine zyq ?_|(refine zap rfl ?_;first|refine zdt rfl rfl rfl rfl rfl rfl (fun nb => ?_)|refine zce rfl ?_|(refine zai [] (row_spec w0) rfl rfl rfl zdj ?_; rintro v Γ ⟨m1, s0, s1, s2, s3, s7, rfl, rfl⟩)|(refine zai [] (keyed_spec w0) rfl rfl rfl zdj ?_; rintro v Γ ⟨m2, s4, s5, s6, rfl, rfl⟩)|(refine zai [] (linked_spec w0) rfl rfl rfl zdj ?_; rintro v Γ ⟨m3, s8, s9, rfl, rfl⟩))|refine zp ?_|refine zch ?_
 refine zeb [13] rfl ?_
 refine zet ?_
 repeat' first|refine zck ?_|refine zcm ?_|refine zcl ?_|refine zcn ?_|refine zyq ?_|refine zco ?_|(refine zap rfl ?_;first|refine zdx 7 (v := .tuple #[.slice none 0 0, .bool false]) rfl rfl rfl rfl ?_|refine zdx 3 (v := .tuple #[mSl s4 5, .bool true]) rfl rfl rfl rfl ?_|refine zbg rfl rfl (by omega) ?_|refine zau rfl rfl (by omega) ?_|refine zas rfl rfl (by omega) ?_)|refine zp ?_|refine zyl 0 rfl ?_|refine zch ?_|refine zci rfl ?_|refine zcj rfl ?_
 refine zec [4] rfl ?_
 refine zef 0 (Rds fun bl => RdSl w0 bl encM 4 (mSl s4 5) (msK 4)) rfl (fun g hg => Rds.mono (fun bl hb => RdSl.flat (encE := encM) (q := 4) (w0 := w0) (b := s4) (l := ms4) (fun _ _ => rfl) hb) g (Rds.of_pt g hg)) rfl ?_
 exact zej rfl rfl
theorem methods5 : Vc.Fn PP w0 [] 37 [.int .i64 5] [] (MsR w0 5) := by
 refine zep en37 fn37 rfl rfl rfl ?_
 repeat' first|refine zck ?_|refine zcl ?_|refine zyq ?_|(refine zap rfl ?_;first|refine zdt rfl rfl rfl rfl rfl rfl (fun nb => ?_)|refine zce rfl ?_|(refine zai [] (row_spec w0) rfl rfl rfl zdj ?_; rintro v Γ ⟨m1, s0, s1, s2, s3, s7, rfl, rfl⟩)|(refine zai [] (keyed_spec w0) rfl rfl rfl zdj ?_; rintro v Γ ⟨m2, s4, s5, s6, rfl, rfl⟩)|(refine zai [] (linked_spec w0) rfl rfl rfl zdj ?_; rintro v Γ ⟨m3, s8, s9, rfl, rfl⟩))|refine zp ?_|refine zch ?_
 refine zeb [13] rfl ?_
 refine zet ?_
 repeat' first|refine zck ?_|refine zcm ?_|refine zcl ?_|refine zcn ?_|refine zyq ?_|refine zco ?_|(refine zap rfl ?_;first|refine zdx 7 (v := .tuple #[.slice none 0 0, .bool false]) rfl rfl rfl rfl ?_|refine zdx 3 (v := .tuple #[mSl s5 9, .bool true]) rfl rfl rfl rfl ?_|refine zbg rfl rfl (by omega) ?_|refine zau rfl rfl (by omega) ?_|refine zas rfl rfl (by omega) ?_)|refine zp ?_|refine zyl 0 rfl ?_|refine zch ?_|refine zci rfl ?_|refine zcj rfl ?_
 refine zec [5] rfl ?_
 refine zef 0 (Rds fun bl => RdSl w0 bl encM 4 (mSl s5 9) (msK 5)) rfl (fun g hg => Rds.mono (fun bl hb => RdSl.flat (encE := encM) (q := 4) (w0 := w0) (b := s5) (l := ms5) (fun _ _ => rfl) hb) g (Rds.of_pt g hg)) rfl ?_
 exact zej rfl rfl
theorem methods6 : Vc.Fn PP w0 [] 37 [.int .i64 6] [] (MsR w0 6) := by
 refine zep en37 fn37 rfl rfl rfl ?_
 repeat' first|refine zck ?_|refine zcl ?_|refine zyq ?_|(refine zap rfl ?_;first|refine zdt rfl rfl rfl rfl rfl rfl (fun nb => ?_)|refine zce rfl ?_|(refine zai [] (row_spec w0) rfl rfl rfl zdj ?_; rintro v Γ ⟨m1, s0, s1, s2, s3, s7, rfl, rfl⟩)|(refine zai [] (keyed_spec w0) rfl rfl rfl zdj ?_; rintro v Γ ⟨m2, s4, s5, s6, rfl, rfl⟩)|(refine zai [] (linked_spec w0) rfl rfl rfl zdj ?_; rintro v Γ ⟨m3, s8, s9, rfl, rfl⟩))|refine zp ?_|refine zch ?_
 refine zeb [13] rfl ?_
 refine zet ?_
 repeat' first|refine zck ?_|refine zcm ?_|refine zcl ?_|refine zcn ?_|refine zyq ?_|refine zco ?_|(refine zap rfl ?_;first|refine zdx 7 (v := .tuple #[.slice none 0 0, .bool false]) rfl rfl rfl rfl ?_|refine zdx 3 (v := .tuple #[mSl s6 7, .bool true]) rfl rfl rfl rfl ?_|refine zbg rfl rfl (by omega) ?_|refine zau rfl rfl (by omega) ?_|refine zas rfl rfl (by omega) ?_)|refine zp ?_|refine zyl 0 rfl ?_|refine zch ?_|refine zci rfl ?_|refine zcj rfl ?_
 refine zec [6] rfl ?_
 refine zef 0 (Rds fun bl => RdSl w0 bl encM 4 (mSl s6 7) (msK 6)) rfl (fun g hg => Rds.mono (fun bl hb => RdSl.flat (encE := encM) (q := 4) (w0 := w0) (b := s6) (l := ms6) (fun _ _ => rfl) hb) g (Rds.of_pt g hg)) rfl ?_
 exact zej rfl rfl
theorem methods7 : Vc.Fn PP w0 [] 37 [.int .i64 7] [] (MsR w0 7) := by
 refine zep en37 fn37 rfl rfl rfl ?_
 repeat' first|refine zck ?_|refine zcl ?_|refine zyq ?_|(refine zap rfl ?_;first|refine zdt rfl rfl rfl rfl rfl rfl (fun nb => ?_)|refine zce rfl ?_|(refine zai [] (row_spec w0) rfl rfl rfl zdj ?_; rintro v Γ ⟨m1, s0, s1, s2, s3, s7, rfl, rfl⟩)|(refine zai [] (keyed_spec w0) rfl rfl rfl zdj ?_; rintro v Γ ⟨m2, s4, s5, s6, rfl, rfl⟩)|(refine zai [] (linked_spec w0) rfl rfl rfl zdj ?_; rintro v Γ ⟨m3, s8, s9, rfl, rfl⟩))|refine zp ?_|refine zch ?_
 refine zeb [13] rfl ?_
 refine zet ?_
 repeat' first|refine zck ?_|refine zcm ?_|refine zcl ?_|refine zyq ?_|(refine zap rfl ?_;first|refine zdx 7 (v := .tuple #[mSl s7 6, .bool true]) rfl rfl rfl rfl ?_|refine zbg rfl rfl (by omega) ?_|refine zas rfl rfl (by omega) ?_)|refine zp ?_|refine zyl 0 rfl ?_|refine zch ?_|refine zci rfl ?_
 refine zec [12] rfl ?_
 refine zef 0 (Rds fun bl => RdSl w0 bl encM 4 (mSl s7 6) (msK 7)) rfl (fun g hg => Rds.mono (fun bl hb => RdSl.flat (encE := encM) (q := 4) (w0 := w0) (b := s7) (l := ms7) (fun _ _ => rfl) hb) g (Rds.of_pt g hg)) rfl ?_
 exact zej rfl rfl
theorem methods8 : Vc.Fn PP w0 [] 37 [.int .i64 8] [] (MsR w0 8) := by
 refine zep en37 fn37 rfl rfl rfl ?_
 repeat' first|refine zck ?_|refine zcl ?_|refine zyq ?_|(refine zap rfl ?_;first|refine zdt rfl rfl rfl rfl rfl rfl (fun nb => ?_)|refine zce rfl ?_|(refine zai [] (row_spec w0) rfl rfl rfl zdj ?_; rintro v Γ ⟨m1, s0, s1, s2, s3, s7, rfl, rfl⟩)|(refine zai [] (keyed_spec w0) rfl rfl rfl zdj ?_; rintro v Γ ⟨m2, s4, s5, s6, rfl, rfl⟩)|(refine zai [] (linked_spec w0) rfl rfl rfl zdj ?_; rintro v Γ ⟨m3, s8, s9, rfl, rfl⟩))|refine zp ?_|refine zch ?_
 refine zeb [13] rfl ?_
 refine zet ?_
 repeat' first|refine zck ?_|refine zcm ?_|refine zcl ?_|refine zcn ?_|refine zyq ?_|refine zco ?_|(refine zap rfl ?_;first|refine zdx 7 (v := .tuple #[.slice none 0 0, .bool false]) rfl rfl rfl rfl ?_|refine zdx 3 (v := .tuple #[.slice none 0 0, .bool false]) rfl rfl rfl rfl ?_|refine zdx 0 (v := .tuple #[mSl s8 10, .bool true]) rfl rfl rfl rfl ?_|refine zbg rfl rfl (by omega) ?_|refine zau rfl rfl (by omega) ?_|refine zas rfl rfl (by omega) ?_)|refine zp ?_|refine zyl 0 rfl ?_|refine zch ?_|refine zci rfl ?_|refine zcj rfl ?_
 refine zec [1] rfl ?_
 refine zef 0 (Rds fun bl => RdSl w0 bl encM 4 (mSl s8 10) (msK 8)) rfl (fun g hg => Rds.mono (fun bl hb => RdSl.flat (encE := encM) (q := 4) (w0 := w0) (b := s8) (l := ms8) (fun _ _ => rfl) hb) g (Rds.of_pt g hg)) rfl ?_
 exact zej rfl rfl
theorem methods9 : Vc.Fn PP w0 [] 37 [.int .i64 9] [] (MsR w0 9) := by
 refine zep en37 fn37 rfl rfl rfl ?_
 repeat' first|refine zck ?_|refine zcl ?_|refine zyq ?_|(refine zap rfl ?_;first|refine zdt rfl rfl rfl rfl rfl rfl (fun nb => ?_)|refine zce rfl ?_|(refine zai [] (row_spec w0) rfl rfl rfl zdj ?_; rintro v Γ ⟨m1, s0, s1, s2, s3, s7, rfl, rfl⟩)|(refine zai [] (keyed_spec w0) rfl rfl rfl zdj ?_; rintro v Γ ⟨m2, s4, s5, s6, rfl, rfl⟩)|(refine zai [] (linked_spec w0) rfl rfl rfl zdj ?_; rintro v Γ ⟨m3, s8, s9, rfl, rfl⟩))|refine zp ?_|refine zch ?_
 refine zeb [13] rfl ?_
 refine zet ?_
 repeat' first|refine zck ?_|refine zcm ?_|refine zcl ?_|refine zcn ?_|refine zyq ?_|refine zco ?_|(refine zap rfl ?_;first|refine zdx 7 (v := .tuple #[.slice none 0 0, .bool false]) rfl rfl rfl rfl ?_|refine zdx 3 (v := .tuple #[.slice none 0 0, .bool false]) rfl rfl rfl rfl ?_|refine zdx 0 (v := .tuple #[mSl s9 7, .bool true]) rfl rfl rfl rfl ?_|refine zbg rfl rfl (by omega) ?_|refine zau rfl rfl (by omega) ?_|refine zas rfl rfl (by omega) ?_)|refine zp ?_|refine zyl 0 rfl ?_|refine zch ?_|refine zci rfl ?_|refine zcj rfl ?_
 refine zec [2] rfl ?_
 refine zef 0 (Rds fun bl => RdSl w0 bl encM 4 (mSl s9 7) (msK 9)) rfl (fun g hg => Rds.mono (fun bl hb => RdSl.flat (encE := encM) (q := 4) (w0 := w0) (b := s9) (l := ms9) (fun _ _ => rfl) hb) g (Rds.of_pt g hg)) rfl ?_
 exact zej rfl rfl
theorem methodsX (k : Int) (hk : k < 0 ∨ 9 < k) : Vc.Fn PP w0 [] 37 [.int .i64 k] [] (MsR w0 k) := by
 have hm : msK k = [] := by
   unfold msK
   rw [if_neg (by omega), if_neg (by omega), if_neg (by omega), if_neg (by omega), if_neg (by omega), if_neg (by omega), if_neg (by omega), if_neg (by omega), if_neg (by omega), if_neg (by omega)]
 have h0 : ∀ a : Int, 0 ≤ a → a ≤ 9 → ¬ a = k := fun a _ _ => by omega
 refine zep en37 fn37 rfl rfl rfl ?_
 repeat' first|refine zck ?_|refine zcl ?_|refine zyq ?_|(refine zap rfl ?_;first|refine zdt rfl rfl rfl rfl rfl rfl (fun nb => ?_)|refine zce rfl ?_|(refine zai [] (row_spec w0) rfl rfl rfl zdj ?_; rintro v Γ ⟨m1, s0, s1, s2, s3, s7, rfl, rfl⟩)|(refine zai [] (keyed_spec w0) rfl rfl rfl zdj ?_; rintro v Γ ⟨m2, s4, s5, s6, rfl, rfl⟩)|(refine zai [] (linked_spec w0) rfl rfl rfl zdj ?_; rintro v Γ ⟨m3, s8, s9, rfl, rfl⟩))|refine zp ?_|refine zch ?_
 refine zeb [13] rfl ?_
 refine zet ?_
 repeat' first|refine zck ?_|refine zcm ?_|refine zcl ?_|refine zcn ?_|refine zyq ?_|refine zco ?_|refine zcs rfl ?_|(refine zap rfl ?_;first|refine zdx 7 (v := .tuple #[.slice none 0 0, .bool false]) rfl rfl rfl (by simp [Vc.look, h0]) ?_|refine zdx 3 (v := .tuple #[.slice none 0 0, .bool false]) rfl rfl rfl (by simp [Vc.look, h0]) ?_|refine zdx 0 (v := .tuple #[.slice none 0 0, .bool false]) rfl rfl rfl (by simp [Vc.look, h0]) ?_|refine zbg rfl rfl (by omega) ?_|refine zbh rfl rfl (by omega) ?_|refine zau rfl rfl (by omega) ?_|refine zas rfl rfl (by omega) ?_)|refine zp ?_|refine zyl 0 rfl ?_|refine zch ?_|refine zci rfl ?_|refine zcj rfl ?_
 refine zec [] rfl ?_
 refine run_emptyR (fun bl => RdSl w0 bl encM 4 (.slice none 0 0) (msK k)) (by rw [hm]; exact RdSl.nil) ?_
 exact zej rfl rfl
theorem methods_spec (k : Int) : Vc.Fn PP w0 [] 37 [.int .i64 k] [] (MsR w0 k) := by
 by_cases h : 0 ≤ k ∧ k ≤ 9
 · rcases (by omega : k = 0 ∨ k = 1 ∨ k = 2 ∨ k = 3 ∨ k = 4 ∨ k = 5 ∨ k = 6 ∨ k = 7 ∨ k = 8 ∨ k = 9) with rfl | rfl | rfl | rfl | rfl | rfl | rfl | rfl | rfl | rfl
   · exact methods0 w0
   · exact methods1 w0
   · exact methods2 w0
   · exact methods3 w0
   · exact methods4 w0
   · exact methods5 w0
   · exact methods6 w0
   · exact methods7 w0
   · exact methods8 w0
   · exact methods9 w0
 · exact methodsX w0 k (by omega)
theorem findM1_spec (sh : Shared) (xc : Nat) (name : ByteArray) (m : MRow) :
   FnE PP w0 ((xc, .cells (List.toArray [.string name]) 9 (0, 0)) :: sh) 42 [.agg (List.toArray (encM m)), .pointer (some ⟨xc, 0, none⟩)] [] (.bool (decide (m.1.1 = name))) [] := by
 refine zep en42 fn42 rfl rfl rfl ?_
 repeat' first|refine zck ?_|refine zyq ?_|(refine zap rfl ?_;first|refine reg_eqS rfl rfl ?_|refine zab 0 rfl rfl rfl ?_|refine zaq (cs := [_, _, _, _]) rfl (fun nb => ?_))|refine zp ?_|refine zyl 0 rfl ?_|refine zyf rfl ?_|refine zch ?_
 refine zec [] rfl ?_
 exact zej rfl ⟨rfl, rfl⟩
theorem idxM_spec (sh : Shared) (v : Value) (l : List MRow) (xc : Nat) (name : ByteArray) (hl : RdSl w0 sh encM 4 v l) (hb : l.length ≤ 1099511627776) :
   FnE PP w0 ((xc, .cells (List.toArray [.string name]) 9 (0, 0)) :: sh) 41 [v, .func (.func 42) #[] #[.pointer (some ⟨xc, 0, none⟩)]] [] (.int .i64 (idxP (fun m => decide (m.1.1 = name)) l 0)) [] := by
 obtain ⟨a, cap, hv, _⟩ := id hl
 subst hv
 refine zep en41 fn41 rfl rfl rfl ?_
 repeat' first|refine zck ?_|refine zcl ?_|refine zyq ?_|(refine zap rfl ?_;refine zce rfl ?_)|refine zp ?_|refine zch ?_
 refine run_loop (S := Nat) (fun j => [(0, .slice a l.length cap), (1, .func (.func 42) #[] #[.pointer (some ⟨xc, 0, none⟩)]), (7, .int .i64 l.length), (8, .int .i64 j)])
   (fun j Γ => Γ = [] ∧ j ≤ l.length ∧ idxP (fun m => decide (m.1.1 = name)) (l.drop j) j = idxP (fun m => decide (m.1.1 = name)) l 0) (fun j => l.length - j) 0 ⟨rfl, rfl, rfl, rfl, trivial⟩ ⟨rfl, by omega, rfl⟩ ?_
 rintro j Γ junk ⟨rfl, g1, g2⟩
 by_cases hj : j < l.length
 · obtain ⟨x, hx⟩ : ∃ x, l[j]? = some x := ⟨_, List.getElem?_eq_getElem hj⟩
   obtain ⟨b, off, c, T, fr, rfl, e2, e3, _⟩ := hl.cells hx
   have hd : l.drop j = x :: l.drop (j + 1) := by
     rw [List.drop_eq_getElem_cons hj]
     congr 1
     exact (List.getElem?_eq_some_iff.1 hx).2
   have hc := findM1_spec w0 sh xc name x
   rw [hd, idxP] at g2
   by_cases hs : decide (x.1.1 = name) = true
   · rw [if_pos hs] at g2
     rw [hs] at hc
     repeat' first|refine zck ?_|refine zcm ?_|refine zcl ?_|refine zyq ?_|(refine zap rfl ?_;first|refine zad rfl (fun hF Γ w h1 h2 => e2 hF Γ w (fun p hp => h1 p (by simp [hp])) h2) (e3 _ (by omega)) ?_|refine zah [] hc rfl rfl rfl (fun _ h => h) rfl ?_|refine zbg rfl rfl (by omega) ?_|refine zas rfl rfl (by omega) ?_)|refine zp ?_|refine zch ?_|refine zci rfl ?_
     exact qret1 (fun _ _ h => h) rfl ⟨by rw [← g2]; rfl, rfl⟩
   · rw [if_neg hs] at g2
     rw [Bool.eq_false_iff.2 hs] at hc
     repeat' first|refine zck ?_|refine zcm ?_|refine zcl ?_|refine zcn ?_|refine zyq ?_|(refine zap rfl ?_;first|refine zad rfl (fun hF Γ w h1 h2 => e2 hF Γ w (fun p hp => h1 p (by simp [hp])) h2) (e3 _ (by omega)) ?_|refine zah [] hc rfl rfl rfl (fun _ h => h) rfl ?_|refine zbg rfl rfl (by omega) ?_|refine zau rfl rfl (by omega) ?_|refine zas rfl rfl (by omega) ?_)|refine zp ?_|refine zch ?_|refine zci rfl ?_|refine zcj rfl ?_
     exact zeq ⟨rfl, j + 1, ⟨rfl, rfl, rfl, zes (by omega), trivial⟩, ⟨rfl, by omega, by rw [← g2]; rfl⟩, by omega⟩
 · repeat' first|refine zck ?_|refine zyq ?_|(refine zap rfl ?_;refine zbh rfl rfl (by omega) ?_)|refine zch ?_|refine zcj rfl ?_
   refine zer rfl rfl ?_
   repeat' first|refine zck ?_|refine zyq ?_|refine zp ?_|refine zch ?_
   rw [List.drop_of_length_le (by omega)] at g2
   exact zej rfl ⟨by rw [← g2]; rfl, rfl⟩
theorem msK_len (k : Int) : (msK k).length ≤ 10 := by
 have h := congrArg List.length (msK_rows k)
 rw [List.length_map] at h
 rw [h]
 unfold ctMeths
 by_cases h : 0 ≤ k ∧ k ≤ 9
 · rcases (by omega : k = 0 ∨ k = 1 ∨ k = 2 ∨ k = 3 ∨ k = 4 ∨ k = 5 ∨ k = 6 ∨ k = 7 ∨ k = 8 ∨ k = 9) with rfl | rfl | rfl | rfl | rfl | rfl | rfl | rfl | rfl | rfl <;> decide
 · rw [if_neg h]; decide
def findMV : Option MRow → Value
 | some m => .tuple #[.agg (List.toArray (encM m)), .bool true]
 | none => .tuple #[.agg (List.toArray [.string ⟨#[]⟩, .int .i64 0, .bool false, .nilFunc]), .bool false]
theorem findM_spec (k : Int) (name : ByteArray) : FnE PP w0 [] 31 [.int .i64 k, .string name] [] (findMV ((msK k).find? fun m => decide (m.1.1 = name))) [] := by
 have hf := idxP_find (fun m : MRow => decide (m.1.1 = name)) (msK k) 0 (Int.le_refl _)
 have hlen := msK_len k
 refine zep en31 fn31 rfl rfl rfl ?_
 refine zyr ?_
 repeat' first|(refine zap rfl ?_;first|refine zaq (cs := [_]) rfl (fun nb => ?_)|refine zar (fun nb => ?_))|refine zp ?_|refine zyn ?_
 refine zeb [0] rfl ?_
 rename_i be
 refine zyr ?_
 repeat' first|(refine zap rfl ?_; (refine zai [] (methods_spec w0 k) rfl rfl rfl zdj ?_; rintro v Γ rfl))|refine zp ?_|refine zyn ?_
 refine zeu [0] rfl ?_
 intro sh' bl hs1 hs2 hR
 have hR := hR.mono hs2
 obtain ⟨a2, c2, hv2, _⟩ := id hR
 subst hv2
 have hbe2 : (be, Obj.cells (List.toArray [Value.string name]) 9 (0, 0)) ∈ sh' := hs1 _ (.head _)
 have hi := idxM_spec w0 sh' _ (msK k) be name hR (by omega)
 have hsub : ∀ p ∈ (be, Obj.cells (List.toArray [Value.string name]) 9 (0, 0)) :: sh', p ∈ sh' := fun p hp => by
   rcases List.mem_cons.1 hp with h | h
   · rw [h]; exact hbe2
   · exact h
 cases hq : (msK k).find? (fun m => decide (m.1.1 = name)) with
 | none =>
   rw [hq] at hf
   rw [hf] at hi
   repeat' first|refine zck ?_|refine zyq ?_|(refine zap rfl ?_;first|refine zah [] hi rfl rfl rfl hsub rfl ?_|refine zbg rfl rfl (by omega) ?_|refine zae 0 rfl rfl rfl rfl rfl rfl rfl ?_|refine zcb rfl ?_)|refine zp ?_|refine zch ?_|refine zci rfl ?_
   exact zeg (zek (zel [] rfl (zen rfl (zeo 0 rfl rfl rfl) rfl ⟨rfl, rfl, rfl⟩)))
 | some x =>
   rw [hq] at hf
   obtain ⟨i, hi1, hx⟩ := hf
   rw [hi1] at hi
   obtain ⟨b, off, c, T, fr, ha2, e2, e3, _⟩ := hR.cells hx
   subst ha2
   have hlt := (List.getElem?_eq_some_iff.1 hx).1
   repeat' first|refine zck ?_|refine zcm ?_|refine zyq ?_|(refine zap rfl ?_;first|refine zad rfl e2 (e3 _ (by omega)) ?_|refine zah [] hi rfl rfl rfl hsub rfl ?_|refine zbh rfl rfl (by omega) ?_|refine zae 0 rfl rfl rfl rfl rfl rfl rfl ?_|refine zas rfl rfl (by omega) ?_)|refine zp ?_|refine zch ?_|refine zcj rfl ?_
   exact zeg (zek (zel [] rfl (zen rfl (zeo 0 rfl rfl rfl) rfl ⟨rfl, rfl, rfl⟩)))
end Go.Proofs.YtgdhcgnmffgkiaaGreatDoor
namespace Sim
open Go Go.Vc
structure Eqv (s t : Sp) : Prop where
 kn : ∀ a, lookW s.kn a = lookW t.kn a
 rd : s.rd = t.rd
 puts : s.puts = t.puts
 need : s.need = t.need
 ended : s.ended = t.ended
theorem Eqv.refl (s : Sp) : Eqv s s := ⟨fun _ => rfl, rfl, rfl, rfl, rfl⟩
theorem Eqv.symm {s t : Sp} (h : Eqv s t) : Eqv t s := ⟨fun a => (h.kn a).symm, h.rd.symm, h.puts.symm, h.need.symm, h.ended.symm⟩
theorem Eqv.reads {s t : Sp} (h : Eqv s t) (a : Int) : (s.reads a).1 = (t.reads a).1 ∧ Eqv (s.reads a).2 (t.reads a).2 := by
 obtain ⟨k, r, p, n, e⟩ := s
 obtain ⟨k', r', p', n', e'⟩ := t
 obtain ⟨h1, h2, h3, h4, h5⟩ := h
 dsimp only at h1 h2 h3 h4 h5
 subst h2; subst h3; subst h4; subst h5
 unfold Sp.reads
 dsimp only
 by_cases he : e = true
 · rw [if_pos he, if_pos he]
   exact ⟨rfl, h1, rfl, rfl, rfl, rfl⟩
 · rw [if_neg he, if_neg he, h1 a]
   cases lookW k' a with
   | none => exact ⟨rfl, h1, rfl, rfl, rfl, rfl⟩
   | some w => exact ⟨rfl, h1, rfl, rfl, rfl, rfl⟩
theorem Eqv.value {s t : Sp} (h : Eqv s t) (a : Int) : s.value a = t.value a := by
 unfold Sp.value
 rw [h.puts, h.kn a]
theorem Eqv.get {s t : Sp} (h : Eqv s t) (a : Int) : (s.get a).1 = (t.get a).1 ∧ Eqv (s.get a).2 (t.get a).2 := by
 obtain ⟨h1, h2⟩ := h.reads a
 unfold Sp.get
 rw [h1]
 split
 · exact ⟨by rw [h2.value a], h2⟩
 · exact ⟨rfl, h2⟩
theorem Eqv.put {s t : Sp} (h : Eqv s t) (a v : Int) : Eqv (s.put a v) (t.put a v) := by
 obtain ⟨h1, h2⟩ := h.reads a
 unfold Sp.put
 rw [h1]
 split
 · exact ⟨h2.kn, h2.rd, by rw [h.puts], h2.need, h2.ended⟩
 · exact h2
theorem Eqv.back {s t : Sp} (h : Eqv s t) (m : Int) : Eqv (s.back m) (t.back m) := by
 obtain ⟨k, r, p, n, e⟩ := s
 obtain ⟨k', r', p', n', e'⟩ := t
 obtain ⟨h1, h2, h3, h4, h5⟩ := h
 dsimp only at h1 h2 h3 h4 h5
 subst h2; subst h3; subst h4; subst h5
 unfold Sp.back
 dsimp only
 split
 · exact ⟨h1, rfl, rfl, rfl, rfl⟩
 · exact ⟨h1, rfl, rfl, rfl, rfl⟩
theorem Pg.run_eqv {α : Type} : ∀ (g : Pg α) {s t : Sp}, Eqv s t → (Pg.run g s).1 = (Pg.run g t).1 ∧ Eqv (Pg.run g s).2 (Pg.run g t).2
 | .ret a, s, t, h => ⟨rfl, h⟩
 | .get x k, s, t, h => by
   obtain ⟨h1, h2⟩ := h.get x
   show (Pg.run (k (s.get x).1) (s.get x).2).1 = (Pg.run (k (t.get x).1) (t.get x).2).1 ∧ Eqv (Pg.run (k (s.get x).1) (s.get x).2).2 (Pg.run (k (t.get x).1) (t.get x).2).2
   rw [h1]
   exact Pg.run_eqv (k (t.get x).1) h2
 | .put x v k, s, t, h => Pg.run_eqv k (h.put x v)
 | .mark k, s, t, h => by
   show (Pg.run (k s.puts.length) s).1 = (Pg.run (k t.puts.length) t).1 ∧ Eqv (Pg.run (k s.puts.length) s).2 (Pg.run (k t.puts.length) t).2
   rw [h.puts]
   exact Pg.run_eqv _ h
 | .back m k, s, t, h => Pg.run_eqv k (h.back m)
end Sim
namespace Sim
open Go Go.Vc
def wk : Nat → List Int → List (Int × Wd)
 | _, [] => []
 | i, v :: r => ((i : Int), ⟨v, 0, 0⟩) :: wk (i + 1) r
theorem wk_get : ∀ (i : Nat) (l : List Int) (q : Nat), (wk i l)[q]? = (l[q]?).map fun v => (((i + q : Nat) : Int), ⟨v, 0, 0⟩)
 | _, [], q => by simp [wk]
 | i, v :: r, 0 => by simp [wk]
 | i, v :: r, q + 1 => by
   simp only [wk, List.getElem?_cons_succ, wk_get (i + 1) r q]
   congr 1; funext v; congr 2; omega
theorem wk_snoc : ∀ (i : Nat) (l : List Int) (v : Int), wk i (l ++ [v]) = wk i l ++ [(((i + l.length : Nat) : Int), ⟨v, 0, 0⟩)]
 | i, [], v => by simp [wk]
 | i, u :: r, v => by
   simp only [List.cons_append, wk, wk_snoc (i + 1) r v, List.length_cons]
   congr 4; omega
theorem lookW_wk : ∀ (i : Nat) (l : List Int) (a : Int), lookW (wk i l) a = if (i : Int) ≤ a ∧ a < i + l.length then (l[(a - i).toNat]?).map fun v => ⟨v, 0, 0⟩ else none
 | i, [], a => by simp [wk, lookW]
 | i, v :: r, a => by
   simp only [wk, lookW, lookW_wk (i + 1) r a]
   by_cases h : (i : Int) = a
   · subst h; simp; omega
   · rw [if_neg h]
     by_cases h2 : (i : Int) ≤ a ∧ a < i + ((v :: r).length : Nat)
     · rw [if_pos h2, if_pos (by simp only [List.length_cons] at h2; omega)]
       obtain ⟨k, hk⟩ : ∃ k : Nat, a = i + 1 + k := ⟨(a - i - 1).toNat, by omega⟩
       subst hk
       have e1 : ((i : Int) + 1 + k - ((i + 1 : Nat) : Int)).toNat = k := by omega
       have e2 : ((i : Int) + 1 + k - (i : Int)).toNat = k + 1 := by omega
       rw [e1, e2]; rfl
     · rw [if_neg h2, if_neg (by simp only [List.length_cons] at h2; omega)]
def insW : List (Int × Wd) → Int → Wd → List (Int × Wd)
 | [], x, u => [(x, u)]
 | (a, w) :: r, x, u => if a = x then (a, u) :: r else (a, w) :: insW r x u
theorem ins_knM : ∀ (l : List (Int × Wd)) (a : Int) (w : Wd), ins (knM l) a (wordV w) = knM (insW l a w)
 | [], _, _ => rfl
 | (b, u) :: r, a, w => by
   simp only [knM, ins, insW]
   by_cases h : b = a <;> simp [h, knM, ins_knM r a w]
theorem look_insW : ∀ (l : List (Int × Wd)) (a x : Int) (w : Wd), lookW (insW l a w) x = if a = x then some w else lookW l x
 | [], a, x, w => by simp [insW, lookW]
 | (b, u) :: r, a, x, w => by
   simp only [insW]
   by_cases h : b = a
   · subst h; by_cases h2 : b = x <;> simp [lookW, h2]
   · simp only [if_neg h, lookW, look_insW r a x w]
     by_cases h2 : b = x
     · subst h2; simp [Ne.symm h]
     · simp [h2]
theorem insW_none : ∀ (l : List (Int × Wd)) (a : Int) (w : Wd), lookW l a = none → insW l a w = l ++ [(a, w)]
 | [], _, _, _ => rfl
 | (b, u) :: r, a, w, h => by
   simp only [lookW] at h
   split at h
   · cases h
   · rename_i hb
     simp [insW, hb, insW_none r a w h]
theorem knM_length : ∀ (l : List (Int × Wd)), (knM l).length = l.length
 | [] => rfl
 | (_, _) :: r => by simp [knM, knM_length r]
theorem knM_get : ∀ (l : List (Int × Wd)) (q : Nat), (knM l)[q]? = (l[q]?).map fun p => (p.1, wordV p.2)
 | [], q => by simp [knM]
 | (a, w) :: r, 0 => by simp [knM]
 | (a, w) :: r, q + 1 => by simp only [knM, List.getElem?_cons_succ, knM_get r q]
theorem lookW_mem : ∀ (l : List (Int × Wd)) (a : Int) (w : Wd), lookW l a = some w → ∃ q : Nat, l[q]? = some (a, w)
 | [], a, w, h => by simp [lookW] at h
 | (b, u) :: r, a, w, h => by
   simp only [lookW] at h
   split at h
   · rename_i hb; subst hb; cases h; exact ⟨0, rfl⟩
   · obtain ⟨q, hq⟩ := lookW_mem r a w h; exact ⟨q + 1, hq⟩
end Sim
namespace Sim
open Go Go.Vc
def awP : Pl := ⟨1, 200, 30⟩
def awT : Tr := ⟨awP, 40, hsI, fun _ => true⟩
theorem awP_ok : awP.Ok := by unfold Pl.Ok awP Pl.chk; decide
theorem awT_ok : awT.Ok := ⟨awP_ok, by decide, by decide, by decide, fun n => (hsI_in n).1, fun n => (hsI_in n).2⟩
def doP (g : Pg (Int × Int)) : Pg (Int × Int) := do
 let r ← g
 pure (if r.2 ≠ 0 then 0 else r.1, r.2)
theorem bd_doP {g : Pg (Int × Int)} {n : Nat} (h : Pg.Bd n g) : Pg.Bd n (doP g) := Pg.bd_seq h (fun _ => Pg.bd_pure (j := 0) _) (Nat.le_refl _)
def mPut (P : Pl) (r v : Int) : Pg (Int × Int) := do
 let e ← Qu.put P r v
 pure (0, e)
def mLen (r : Int) : Pg (Int × Int) := do
 let n ← Qu.len r
 pure (n, 0)
def mtPut (T : Tr) (n v : Int) : Pg (Int × Int) := do
 let r ← T.put n (hsI n) v
 pure (r.1.1, r.2)
def mtHas (T : Tr) (n : Int) : Pg (Int × Int) := do
 let r ← T.get n (hsI n)
 pure (if r.2 = true then (1, 0) else (0, 0))
def mtGet (T : Tr) (n : Int) : Pg (Int × Int) := do
 let r ← T.get n (hsI n)
 pure (if r.2 = true then (r.1, 0) else (0, 10))
theorem bd_mPut (P : Pl) (r v : Int) : Pg.Bd 7 (mPut P r v) := Pg.bd_seq (Qu.bd_put P r v) (fun _ => Pg.bd_pure (j := 0) _) (Nat.le_refl _)
theorem bd_mLen (r : Int) : Pg.Bd 0 (mLen r) := Pg.bd_seq (Qu.bd_len r) (fun _ => Pg.bd_pure (j := 0) _) (Nat.le_refl _)
theorem bd_mtPut (T : Tr) (n v : Int) : Pg.Bd 65 (mtPut T n v) := Pg.bd_seq (T.bd_put n (hsI n) v) (fun _ => Pg.bd_pure (j := 0) _) (Nat.le_refl _)
theorem bd_mtHas (T : Tr) (n : Int) : Pg.Bd 0 (mtHas T n) := Pg.bd_seq (T.bd_get n (hsI n)) (fun _ => Pg.bd_pure (j := 0) _) (Nat.le_refl _)
theorem bd_mtGet (T : Tr) (n : Int) : Pg.Bd 0 (mtGet T n) := Pg.bd_seq (T.bd_get n (hsI n)) (fun _ => Pg.bd_pure (j := 0) _) (Nat.le_refl _)
def awS : Sp := ⟨wk 0 (List.replicate 440 0), [], [], 0, false⟩
def awG : Nat → Pg (Int × Int)
 | 0 => mPut awP 24 5
 | 1 => mPut awP 24 6
 | 2 => Qu.take awP 24
 | 3 => mLen 24
 | 4 => Qu.first 24
 | 5 => mtPut awT 1 7
 | 6 => mtHas awT 1
 | _ => mtGet awT 2
def awR : Nat → (Int × Int) × Sp
 | 0 => Pg.run (doP (awG 0)) awS
 | n + 1 => Pg.run (doP (awG (n + 1))) (awR n).2
def awV : List (Int × Int) := [(0, 0), (0, 0), (5, 0), (1, 0), (6, 0), (0, 0), (1, 0), (0, 10)]
theorem aw_all : (List.range 8).all (fun n => decide (awV[n]? = some (awR n).1) && decide ((awR n).2.puts.length ≤ 1000)) = true := by decide +kernel
end Sim
namespace Go.Proofs.YtgdhcgnmffgkiaaGreatDoor
variable (w0 : World)
open Go.Vc Sim
set_option maxHeartbeats 4000000
abbrev onV (p : Nat) (P : Pl) (a : Int) : Value := .agg (List.toArray [spP p, .int .i64 P.root, .int .i64 P.frm, .int .i64 P.nodes, .int .i64 a])
theorem nothing_spec (e : Int) : FnE PP w0 [] 199 [.int .i64 e] [] (encI2 (0, e)) [] := by
 refine zep en199 fn199 rfl rfl rfl ?_
 repeat' first|refine zck ?_|refine zyq ?_|refine zp ?_|refine zch ?_
 exact zei rfl ⟨rfl, rfl⟩
theorem plain_spec (e : Int) : FnE PP w0 [] 195 [.int .i64 e] [] (encI2 (e, 0)) [] := by
 refine zep en195 fn195 rfl rfl rfl ?_
 repeat' first|refine zck ?_|refine zyq ?_|refine zp ?_|refine zch ?_
 exact zei rfl ⟨rfl, rfl⟩
theorem found_spec (v : Int) (b : Bool) : FnE PP w0 [] 224 [.int .i64 v, .bool b] [] (encI2 (if b = true then (v, 0) else (0, 10))) [] := by
 cases b <;>
 · refine zep en224 fn224 rfl rfl rfl ?_
   repeat' first|refine zck ?_|refine zcm ?_|refine zyq ?_|(refine zap rfl ?_;refine zbx rfl ?_)|refine zp ?_|refine zch ?_|refine zci rfl ?_|refine zcj rfl ?_
   exact zei rfl ⟨rfl, rfl⟩
theorem truth_spec (b : Bool) : FnE PP w0 [] 226 [.bool b, .int .i64 0] [] (encI2 (if b = true then (1, 0) else (0, 0))) [] := by
 cases b <;>
 · refine zep en226 fn226 rfl rfl rfl ?_
   repeat' first|refine zck ?_|refine zcm ?_|refine zyq ?_|(refine zap rfl ?_;first|refine zbx rfl ?_|refine zaj rfl ?_|refine zbf rfl rfl (by omega) ?_|refine zbv rfl ?_)|refine zp ?_|refine zch ?_|refine zci rfl ?_|refine zcj rfl ?_
   exact zei rfl ⟨rfl, rfl⟩
theorem onTrie_spec (p : Nat) (P : Pl) (r : Int) : FnE PP w0 [] 222 [onV p P r] [] (trV ⟨P, r, hsI, fun _ => true⟩) [] := by
 have hMk : ∀ w, (Instr.makeInterface 105 (.agg #[])).run PP w = .ok (.iface 105 (.agg #[])) w := fun w => by kernel_rfl
 refine zep en222 fn222 rfl rfl rfl ?_
 refine zyr ?_
 repeat' (refine zap rfl ?_;first|refine zaq (cs := [_, _, _, _, _]) rfl (fun tb => ?_)|refine zar (fun t2 => ?_))
 all_goals refine zyn ?_
 refine zeb [0] rfl ?_
 repeat' first|refine zyq ?_|(refine zap rfl ?_;first|refine zcb rfl ?_|refine reg_mkI hMk rfl ?_|refine zae 0 rfl rfl rfl rfl rfl rfl rfl ?_)|refine zyl 0 rfl ?_|refine zyf rfl ?_|refine zch ?_
 exact zeg (zek (zel [] rfl (zem rfl (zeo 0 rfl rfl rfl) ⟨rfl, rfl, rfl⟩)))
theorem qPutG (sh : Shared) (p : Nat) (P : Pl) (hP : P.Ok) (r x : Int) (l : List Int) (a : Option Addr) (c : Nat) (hl : RdSl w0 sh encI 1 (.slice a l.length c) l) (hx : l[0]? = some x) :
   FnG w0 sh 203 [onV p P r, .slice a l.length c] p (mPut P r x) encI2 := by
 intro s hS
 have hG := At.start hS
 generalize Pg.run _ s = R at hG ⊢
 unfold mPut at hG
 obtain ⟨b, off, cc, T, fr, rfl, e2, _, e4⟩ := hl.cells hx
 have h0 : 0 < l.length := (List.getElem?_eq_some_iff.1 hx).1
 refine zep en203 fn203 rfl rfl rfl ?_
 refine zyr ?_
 repeat' first|(refine zap rfl ?_;refine zaq (cs := [_, _, _, _, _]) rfl (fun tb => ?_))|refine zp ?_|refine zyn ?_
 refine zeb [1] rfl ?_
 refine zyr ?_
 repeat' first|(refine zap rfl ?_;first|refine zad rfl (zyt e2) (e4 0 _ rfl _ (by omega)) ?_|refine zdk [0] hG (quPut w0 p P hP r x) rfl rfl rfl zdj (fun e s hG => ?_)|refine zah [] (nothing_spec w0 _) rfl rfl rfl zdj rfl ?_|refine zas rfl rfl (by omega) ?_)|refine zp ?_|refine zyl 0 rfl ?_|refine zyf rfl ?_|refine zyn ?_
 rw [hG.done]
 exact zei rfl ⟨rfl, rfl⟩
theorem qTakeG (sh : Shared) (p : Nat) (P : Pl) (hP : P.Ok) (r : Int) (v : Value) : FnG w0 sh 204 [onV p P r, v] p (Qu.take P r) encI2 := by
 intro s hS
 have hG := (At.start hS).to (Pg.bind_pure _).symm
 generalize Pg.run _ s = R at hG ⊢
 refine zep en204 fn204 rfl rfl rfl ?_
 refine zyr ?_
 repeat' first|(refine zap rfl ?_;refine zaq (cs := [_, _, _, _, _]) rfl (fun tb => ?_))|refine zp ?_|refine zyn ?_
 refine zeb [1] rfl ?_
 refine zyr ?_
 repeat' first|(refine zap rfl ?_;refine zdk [0] hG (quTake w0 p P hP r) rfl rfl rfl zdj (fun e s hG => ?_))|refine zp ?_|refine zyl 0 rfl ?_|refine zyf rfl ?_|refine zyn ?_
 rw [hG.done]
 exact zei rfl ⟨rfl, rfl⟩
theorem qFirstG (sh : Shared) (p : Nat) (P : Pl) (r : Int) (v : Value) : FnG w0 sh 205 [onV p P r, v] p (Qu.first r) encI2 := by
 intro s hS
 have hG := (At.start hS).to (Pg.bind_pure _).symm
 generalize Pg.run _ s = R at hG ⊢
 refine zep en205 fn205 rfl rfl rfl ?_
 refine zyr ?_
 repeat' first|(refine zap rfl ?_;refine zaq (cs := [_, _, _, _, _]) rfl (fun tb => ?_))|refine zp ?_|refine zyn ?_
 refine zeb [1] rfl ?_
 refine zyr ?_
 repeat' first|(refine zap rfl ?_;refine zdk [0] hG (quFirst w0 p r) rfl rfl rfl zdj (fun e s hG => ?_))|refine zp ?_|refine zyl 0 rfl ?_|refine zyf rfl ?_|refine zyn ?_
 rw [hG.done]
 exact zei rfl ⟨rfl, rfl⟩
theorem qLenG (sh : Shared) (p : Nat) (P : Pl) (r : Int) (v : Value) : FnG w0 sh 206 [onV p P r, v] p (mLen r) encI2 := by
 intro s hS
 have hG := At.start hS
 generalize Pg.run _ s = R at hG ⊢
 unfold mLen at hG
 refine zep en206 fn206 rfl rfl rfl ?_
 refine zyr ?_
 repeat' first|(refine zap rfl ?_;refine zaq (cs := [_, _, _, _, _]) rfl (fun tb => ?_))|refine zp ?_|refine zyn ?_
 refine zeb [1] rfl ?_
 refine zyr ?_
 repeat' first|(refine zap rfl ?_;first|refine zdk [0] hG (quLen w0 p r) rfl rfl rfl zdj (fun e s hG => ?_)|refine zah [] (plain_spec w0 _) rfl rfl rfl zdj rfl ?_)|refine zp ?_|refine zyl 0 rfl ?_|refine zyf rfl ?_|refine zyn ?_
 rw [hG.done]
 exact zei rfl ⟨rfl, rfl⟩
theorem tI_of (P : Pl) (r : Int) : (⟨P, r, hsI, fun _ => true⟩ : Tr).IsI := ⟨rfl, fun _ => rfl⟩
theorem tPutG (sh : Shared) (p : Nat) (P : Pl) (r : Int) (hT : (⟨P, r, hsI, fun _ => true⟩ : Tr).Ok) (x y : Int) (l : List Int) (a : Option Addr) (c : Nat) (hl : RdSl w0 sh encI 1 (.slice a l.length c) l) (hx : l[0]? = some x) (hy : l[1]? = some y) :
   FnG w0 sh 221 [onV p P r, .slice a l.length c] p (mtPut ⟨P, r, hsI, fun _ => true⟩ x y) encI2 := by
 intro s hS
 have hG := At.start hS
 generalize Pg.run _ s = R at hG ⊢
 unfold mtPut at hG
 obtain ⟨b, off, cc, T, fr, rfl, e2, _, e4⟩ := hl.cells hx
 obtain ⟨b', off', cc', T', fr', hb, f2, _, f4⟩ := hl.cells hy
 cases hb
 have h0 : 1 < l.length := (List.getElem?_eq_some_iff.1 hy).1
 refine zep en221 fn221 rfl rfl rfl ?_
 refine zyr ?_
 repeat' first|(refine zap rfl ?_;refine zaq (cs := [_, _, _, _, _]) rfl (fun tb => ?_))|refine zp ?_|refine zyn ?_
 refine zeb [1] rfl ?_
 refine zyr ?_
 repeat' first|(refine zap rfl ?_;first|refine zad rfl (zyt e2) (e4 0 _ rfl _ (by omega)) ?_|refine zad rfl (fun hF Γ w h1 h2 => f2 hF Γ w (fun p hp => h1 p (.tail _ hp)) h2) (f4 0 _ rfl _ (by omega)) ?_|refine zah [] (onTrie_spec w0 p P r) rfl rfl rfl zdj rfl ?_|refine zdk [0] hG (trPut w0 p _ hT (tI_of P r) x y) rfl rfl rfl zdj (fun e s hG => ?_)|refine zas rfl rfl (by omega) ?_)|refine zp ?_|refine zyl 0 rfl ?_|refine zyf rfl ?_|refine zyn ?_
 repeat' first|refine zyq ?_|refine zp ?_|refine zch ?_
 rw [hG.done]
 exact zei rfl ⟨rfl, rfl⟩
theorem tGetG (sh : Shared) (p : Nat) (P : Pl) (r : Int) (hT : (⟨P, r, hsI, fun _ => true⟩ : Tr).Ok) (x : Int) (l : List Int) (a : Option Addr) (c : Nat) (hl : RdSl w0 sh encI 1 (.slice a l.length c) l) (hx : l[0]? = some x) :
   FnG w0 sh 223 [onV p P r, .slice a l.length c] p (mtGet ⟨P, r, hsI, fun _ => true⟩ x) encI2 := by
 intro s hS
 have hG := At.start hS
 generalize Pg.run _ s = R at hG ⊢
 unfold mtGet at hG
 obtain ⟨b, off, cc, T, fr, rfl, e2, _, e4⟩ := hl.cells hx
 have h0 : 0 < l.length := (List.getElem?_eq_some_iff.1 hx).1
 refine zep en223 fn223 rfl rfl rfl ?_
 refine zyr ?_
 repeat' first|(refine zap rfl ?_;refine zaq (cs := [_, _, _, _, _]) rfl (fun tb => ?_))|refine zp ?_|refine zyn ?_
 refine zeb [1] rfl ?_
 refine zyr ?_
 repeat' first|(refine zap rfl ?_;first|refine zad rfl (zyt e2) (e4 0 _ rfl _ (by omega)) ?_|refine zah [] (onTrie_spec w0 p P r) rfl rfl rfl zdj rfl ?_|refine zdk [0] hG (trGet w0 p _ hT (tI_of P r) x) rfl rfl rfl zdj (fun e s hG => ?_)|refine zah [] (found_spec w0 _ _) rfl rfl rfl zdj rfl ?_|refine zas rfl rfl (by omega) ?_)|refine zp ?_|refine zyl 0 rfl ?_|refine zyf rfl ?_|refine zyn ?_
 rw [hG.done]
 exact zei rfl ⟨rfl, rfl⟩
theorem tHasG (sh : Shared) (p : Nat) (P : Pl) (r : Int) (hT : (⟨P, r, hsI, fun _ => true⟩ : Tr).Ok) (x : Int) (l : List Int) (a : Option Addr) (c : Nat) (hl : RdSl w0 sh encI 1 (.slice a l.length c) l) (hx : l[0]? = some x) :
   FnG w0 sh 225 [onV p P r, .slice a l.length c] p (mtHas ⟨P, r, hsI, fun _ => true⟩ x) encI2 := by
 intro s hS
 have hG := At.start hS
 generalize Pg.run _ s = R at hG ⊢
 unfold mtHas at hG
 obtain ⟨b, off, cc, T, fr, rfl, e2, _, e4⟩ := hl.cells hx
 have h0 : 0 < l.length := (List.getElem?_eq_some_iff.1 hx).1
 refine zep en225 fn225 rfl rfl rfl ?_
 refine zyr ?_
 repeat' first|(refine zap rfl ?_;refine zaq (cs := [_, _, _, _, _]) rfl (fun tb => ?_))|refine zp ?_|refine zyn ?_
 refine zeb [1] rfl ?_
 refine zyr ?_
 repeat' first|(refine zap rfl ?_;first|refine zad rfl (zyt e2) (e4 0 _ rfl _ (by omega)) ?_|refine zah [] (onTrie_spec w0 p P r) rfl rfl rfl zdj rfl ?_|refine zdk [0] hG (trGet w0 p _ hT (tI_of P r) x) rfl rfl rfl zdj (fun e s hG => ?_)|refine zas rfl rfl (by omega) ?_)|refine zp ?_|refine zyl 0 rfl ?_|refine zyf rfl ?_|refine zyn ?_
 repeat' first|refine zyq ?_|(refine zap rfl ?_;refine zah [] (truth_spec w0 _) rfl rfl rfl zdj rfl ?_)|refine zp ?_|refine zch ?_
 rw [hG.done]
 exact zei rfl ⟨rfl, rfl⟩
theorem doG (sh : Shared) (p : Nat) (P : Pl) (k r : Int) (name : ByteArray) (a : Option Addr) (len c : Nat) (m : MRow) (hm : ((msK k).find? fun m => decide (m.1.1 = name)) = some m) (hk : ctName k ≠ bs []) (ha : m.1.2.1 = (len : Int)) (g : Pg (Int × Int))
   (hf : FnG w0 sh m.2 [onV p P r, .slice a len c] p g encI2) :
   FnG w0 sh 13 [spP p, poolV P, .agg (List.toArray [.int .i64 k, .int .i64 r]), .string name, .slice a len c] p (doP g) encI2 := by
 intro s hS
 have hG := At.start hS
 generalize Pg.run _ s = R at hG ⊢
 unfold doP at hG
 have hfm := findM_spec w0 k name
 rw [hm] at hfm
 unfold findMV at hfm
 have hnm := name_spec w0 k
 obtain ⟨⟨mn, ma, mw⟩, mf⟩ := m
 dsimp only at ha hf hfm
 subst ha
 have hfm : FnE PP w0 [] 31 [.int .i64 k, .string name] [] (.tuple #[.agg (List.toArray [.string mn, .int .i64 (len : Int), .bool mw, .func (.func mf) #[] #[]]), .bool true]) [] := hfm
 refine zep en13 fn13 rfl rfl rfl ?_
 refine zyr ?_
 repeat' first|(refine zap rfl ?_;first|refine zaq (cs := [_, _, _]) rfl (fun t6 => ?_)|refine zaq (cs := [_, _]) rfl (fun t7 => ?_))|refine zp ?_|refine zyn ?_
 refine zeb [1] rfl ?_
 refine zeb [1] rfl ?_
 refine zyr ?_
 repeat' first|(refine zap rfl ?_;first|refine zdr rfl rfl hk ?_|refine zah [] hnm rfl rfl rfl zdj rfl ?_)|refine zyl 0 rfl ?_|refine zyf rfl ?_|refine zyn ?_
 refine zcj rfl ?_
 refine zyr ?_
 repeat' first|(refine zap rfl ?_;first|refine zar (fun t12 => ?_)|refine zah [] hfm rfl rfl rfl zdj rfl ?_|refine zae 1 rfl rfl rfl rfl rfl rfl rfl ?_)|refine zp ?_|refine zyl 0 rfl ?_|refine zyf rfl ?_|refine zyn ?_
 refine zeb [1] rfl ?_
 repeat (first|refine zck ?_|refine zcl ?_|refine zcm ?_|refine zcn ?_|refine zco ?_)
 refine zyr ?_
 repeat' first|(refine zap rfl ?_;refine zbx rfl ?_)|refine zp ?_|refine zyn ?_
 refine zcj rfl ?_
 refine zyr ?_
 repeat' first|(refine zap rfl ?_;first|refine zce rfl ?_|refine zbf rfl rfl (by omega) ?_)|refine zp ?_|refine zyl 0 rfl ?_|refine zyf rfl ?_|refine zyn ?_
 refine zcj rfl ?_
 refine zyr ?_
 repeat' first|(refine zap rfl ?_;first|refine zcb rfl ?_|refine zdk [0] hG hf rfl rfl rfl (fun p hp => .tail _ (.tail _ (.tail _ hp))) (fun q s hG => ?_))|refine zp ?_|refine zyl 0 rfl ?_|refine zyl 1 rfl ?_|refine zyl 2 rfl ?_|refine zyf rfl ?_|refine zyn ?_
 obtain ⟨v, e⟩ := q
 dsimp only at hG
 by_cases he : e = 0
 · subst he
   refine zyr ?_
   repeat' first|(refine zap rfl ?_;refine zbf rfl rfl (by omega) ?_)|refine zp ?_|refine zyn ?_
   refine zcj rfl ?_
   repeat' first|refine zck ?_|refine zcm ?_|refine zyq ?_|refine zp ?_|refine zch ?_
   rw [hG.done]
   exact zei rfl ⟨rfl, rfl⟩
 · repeat (first|refine zck ?_|refine zcl ?_|refine zcm ?_|refine zcn ?_)
   refine zyr ?_
   repeat' first|(refine zap rfl ?_;refine zbe rfl rfl (by omega) ?_)|refine zp ?_|refine zyn ?_
   refine zci rfl ?_
   repeat' first|refine zck ?_|refine zyq ?_|refine zp ?_|refine zch ?_
   rw [hG.done]
   refine zei rfl ⟨?_, rfl⟩
   show encI2 (0, e) = encI2 (if e ≠ 0 then 0 else v, e)
   rw [if_pos he]
end Go.Proofs.YtgdhcgnmffgkiaaGreatDoor
