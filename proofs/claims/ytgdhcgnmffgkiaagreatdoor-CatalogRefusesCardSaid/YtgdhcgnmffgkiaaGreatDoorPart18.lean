import Derived.Test.YtgdhcgnmffgkiaaGreatDoorPart17
import Derived.Test.YtgdhcgnmffgkiaaGreatDoorKit
/- Own work: lemmas of this claim. -/
namespace Go.Proofs.YtgdhcgnmffgkiaaGreatDoor
variable (w0 : World)
open Go.Vc Sim
set_option maxHeartbeats 4000000
theorem heSink (p wb : Nat) (H : He) (hH : H.Ok) (b : Bool) (x a n : Int) (hx : 1 ≤ x ∧ x ≤ 32) (hn : n ≤ 32) : FnW w0 278 [.pointer (some ⟨wb, 0, none⟩), .int .i64 x, .int .i64 a, .int .i64 n] p wb H b (H.sink x a n b) encU := by
 intro s hS; have hG := At.start hS; generalize Pg.run _ s = R at hG ⊢
 unfold He.sink at hG
 refine zep en278 fn278 rfl rfl rfl ?_
 refine zyr ?_
 repeat' first|(refine zap rfl ?_;first|refine zar (fun t8 => ?_)|refine zdn [0, 0] hG (heKey w0 p wb H b a) rfl rfl rfl (fun own s hG => ?_)|refine zae 2 rfl rfl rfl rfl rfl rfl rfl ?_)|refine zp ?_|refine zyn ?_
 refine zeb [2] rfl ?_
 repeat (first|refine zck ?_|refine zcl ?_|refine zcm ?_|refine zcn ?_|refine zco ?_)
 refine run_loop (S := Int × Bool × Nat × Sp) (fun v => [(0, .pointer (some ⟨wb, 0, none⟩)), (1, .int .i64 v.1), (2, .int .i64 a), (3, .int .i64 n), (8, .pointer (some ⟨t8, 0, none⟩))])
   (fun v Γ => Γ = [SpaceA p v.2.2.2, hwA wb p H v.2.1] ∧ At R (H.sinkK own a n v.2.2.1 v.1 v.2.1) v.2.2.2 ∧ 1 ≤ v.1 ∧ v.1 ≤ 33 ∧ 64 < v.1 * 2 ^ v.2.2.1) (fun v => v.2.2.1) (x, b, 7, s) ⟨rfl, rfl, rfl, rfl, rfl, trivial⟩ ⟨rfl, hG, hx.1, by dsimp only; omega, by dsimp only; omega⟩ ?_
 rintro ⟨y, c, k, s⟩ Γ junk ⟨rfl, hG, h1, h2, h3⟩
 dsimp only at hG h1 h2 h3 ⊢
 obtain ⟨j, rfl⟩ : ∃ j, k = j + 1 := by
   cases k with
   | zero => simp at h3; omega
   | succ j => exact ⟨j, rfl⟩
 rw [He.sinkK] at hG
 by_cases hc : 2 * y ≤ n ∧ c = false
 rotate_left
 · rw [if_neg hc] at hG
   by_cases hy1 : 2 * y ≤ n
   · have hct : c = true := by cases c with
       | true => rfl
       | false => exact absurd ⟨hy1, rfl⟩ hc
     subst hct
     refine zyr ?_
     repeat' first|(refine zap rfl ?_;first|refine zbx rfl ?_|refine zaj rfl ?_|refine zab 1 rfl rfl rfl ?_|refine zbi rfl rfl (by omega) ?_|refine zaw rfl rfl (by omega) ?_|refine zbu rfl ?_)|refine zp ?_|refine zyf rfl ?_|refine zyn ?_
     refine zcj rfl ?_
     refine zer rfl rfl ?_
     have hG := hG.to (Pg.bind_pure _).symm
     repeat' first|refine zyq ?_|(refine zap rfl ?_;refine zdp [0, 0] hG (heLay w0 p wb H hH true y a (by omega)) rfl rfl rfl (fun _ d s hG => ?_))|refine zp ?_|refine zch ?_
     rw [hG.done]
     exact end_tmp0 rfl ⟨rfl, rfl⟩
   · repeat (first|refine zck ?_|refine zcl ?_|refine zcm ?_|refine zcn ?_)
     refine zyr ?_
     repeat' first|(refine zap rfl ?_;first|refine zak rfl ?_|refine zbj rfl rfl (by omega) ?_|refine zaw rfl rfl (by omega) ?_|refine zbv rfl ?_)|refine zp ?_|refine zyn ?_
     refine zcj rfl ?_
     refine zer rfl rfl ?_
     have hG := hG.to (Pg.bind_pure _).symm
     repeat' first|refine zyq ?_|(refine zap rfl ?_;refine zdp [0, 0] hG (heLay w0 p wb H hH c y a (by omega)) rfl rfl rfl (fun _ d s hG => ?_))|refine zp ?_|refine zch ?_
     rw [hG.done]
     exact end_tmp0 rfl ⟨rfl, rfl⟩
 rw [if_pos hc] at hG
 obtain ⟨hy1, rfl⟩ := hc
 simp only [He.kid, Pg.bind_assoc, Pg.ite_bind, Pg.pure_bind] at hG
 refine zyr ?_
 repeat' first|(refine zap rfl ?_;first|refine zbx rfl ?_|refine zaj rfl ?_|refine zab 1 rfl rfl rfl ?_|refine zbi rfl rfl (by omega) ?_|refine zaw rfl rfl (by omega) ?_|refine zbu rfl ?_)|refine zp ?_|refine zyf rfl ?_|refine zyn ?_
 refine zci rfl ?_
 refine zyr ?_
 repeat' first|(refine zap rfl ?_;refine zaw rfl rfl (by omega) ?_)|refine zp ?_|refine zyn ?_
 refine zyr ?_
 repeat' first|(refine zap rfl ?_;refine zdp [0, 0] hG (heItem w0 p wb H hH false (2 * y) (by omega)) rfl rfl rfl (fun u c s hG => ?_))|refine zp ?_|refine zyn ?_
 dsimp only at hG
 refine zyr ?_
 repeat' first|(refine zap rfl ?_;refine zbq rfl rfl ?_)|refine zp ?_|refine zyn ?_
 refine run_join (S := Int × Int × Bool × Sp) (fun v => [(0, .pointer (some ⟨wb, 0, none⟩)), (1, .int .i64 y), (2, .int .i64 a), (3, .int .i64 n), (8, .pointer (some ⟨t8, 0, none⟩)), (9, .int .i64 v.1), (10, .int .i64 v.2.1)])
   (fun v Γ => Γ = [SpaceA p v.2.2.2, hwA wb p H v.2.2.1] ∧ At R (He.key v.2.1 >>= fun q => if ahdB q own = true then H.lay y v.2.1 v.2.2.1 >>= fun b => H.sinkK own a n j v.1 b.2 else H.lay y a v.2.2.1) v.2.2.2 ∧ 2 * y ≤ v.1 ∧ v.1 ≤ 2 * y + 1 ∧ v.1 ≤ 33) ?_ ?_
 · refine zed rfl (fun hk => ?_) (fun hk => ?_)
   · rw [if_pos hk] at hG
     refine zyr ?_
     repeat' first|(refine zap rfl ?_;first|refine zdp [0, 0] hG (heItem w0 p wb H hH c (2 * y + 1) (by omega)) rfl rfl rfl (fun v d s hG => ?_)|refine zau rfl rfl (by omega) ?_)|refine zp ?_|refine zyn ?_
     dsimp only at hG
     refine zyr ?_
     repeat' first|(refine zap rfl ?_;first|refine zdn [0, 0] hG (heKey w0 p wb H d _) rfl rfl rfl (fun q s hG => ?_)|refine zah [] (heAhead w0 _ _) rfl rfl rfl zdj rfl ?_)|refine zp ?_|refine zyn ?_
     refine zee rfl (fun hE => ?_) (fun hE => ?_)
     · simp only [hE, if_true] at hG
       repeat' first|refine zyq ?_|(refine zap rfl ?_;refine zau rfl rfl (by omega) ?_)|refine zp ?_|refine zch ?_
       exact zeq ⟨rfl, (2 * y + 1, v, d, s), ⟨rfl, rfl, rfl, rfl, rfl, rfl, rfl, trivial⟩, ⟨rfl, hG, by dsimp only; omega, by dsimp only; omega, by dsimp only; omega⟩⟩
     · simp only [hE, Bool.false_eq_true, if_false] at hG
       repeat' first|refine zcm ?_|(refine zap rfl ?_;first|refine zaj rfl ?_|refine zak rfl ?_|refine zal rfl ?_|refine zam rfl rfl (fun _ => ?_) (fun _ => ?_))|refine zch ?_
       exact zeq ⟨rfl, (2 * y, u, d, s), ⟨rfl, rfl, rfl, rfl, rfl, rfl, rfl, trivial⟩, ⟨rfl, hG, by dsimp only; omega, by dsimp only; omega, by dsimp only; omega⟩⟩
   · rw [if_neg hk] at hG
     repeat' first|refine zcm ?_|(refine zap rfl ?_;first|refine zaj rfl ?_|refine zak rfl ?_|refine zal rfl ?_|refine zam rfl rfl (fun _ => ?_) (fun _ => ?_))|refine zch ?_
     exact zeq ⟨rfl, (2 * y, u, c, s), ⟨rfl, rfl, rfl, rfl, rfl, rfl, rfl, trivial⟩, ⟨rfl, hG, by dsimp only; omega, by dsimp only; omega, by dsimp only; omega⟩⟩
 rintro ⟨kd, u, c, s⟩ Γ junk2 ⟨rfl, hG, g1, g2, g3⟩
 dsimp only at hG g1 g2 g3 ⊢
 refine zyr ?_
 repeat' first|(refine zap rfl ?_;first|refine zbx rfl ?_|refine zdn [0, 0] hG (heKey w0 p wb H _ _) rfl rfl rfl (fun q s hG => ?_)|refine zah [] (heAhead w0 q own) rfl rfl rfl zdj rfl ?_)|refine zp ?_|refine zyl 0 rfl ?_|refine zyn ?_
 refine zee rfl (fun hE => ?_) (fun hE => ?_)
 · have hE : ahdB q own = false := by simpa using hE
   simp only [hE, Bool.false_eq_true, if_false] at hG
   refine zer rfl rfl ?_
   have hG := hG.to (Pg.bind_pure _).symm
   repeat' first|refine zyq ?_|(refine zap rfl ?_;refine zdp [0, 0] hG (heLay w0 p wb H hH c y a (by omega)) rfl rfl rfl (fun _ d s hG => ?_))|refine zp ?_|refine zch ?_
   rw [hG.done]
   exact end_tmp0 rfl ⟨rfl, rfl⟩
 · have hE : ahdB q own = true := by simpa using hE
   simp only [hE, if_true] at hG
   repeat' first|refine zck ?_|refine zcm ?_|refine zcn ?_|refine zyq ?_|(refine zap rfl ?_;refine zdp [0, 0] hG (heLay w0 p wb H hH c y u (by omega)) rfl rfl rfl (fun _ d s hG => ?_))|refine zp ?_|refine zch ?_
   refine zeq ⟨rfl, (kd, d, j, s), ⟨rfl, rfl, rfl, rfl, rfl, trivial⟩, ⟨rfl, hG, by dsimp only; omega, by dsimp only; omega, ?_⟩, by dsimp only; omega⟩
   dsimp only
   have h4 : y * 2 ^ (j + 1) = (2 * y) * 2 ^ j := by rw [Int.pow_succ]; ac_rfl
   rw [h4] at h3
   exact Int.lt_of_lt_of_le h3 (Int.mul_le_mul_of_nonneg_right g1 (Int.le_of_lt (Int.pow_pos (by decide))))
end Go.Proofs.YtgdhcgnmffgkiaaGreatDoor
namespace Sim
open Go Go.Vc Pg
theorem He.all_find (H : He) (h : Int) : Pg.All (fun r => r.1.2.2 = 0 → 1 ≤ r.1.1.2 ∧ r.1.1.2 ≤ r.1.2.1 ∧ r.1.2.1 ≤ 32 ∧ r.2 = false) (H.find h) := by
 unfold He.find He.many
 simp only [Pg.bind_assoc, Pg.pure_bind]
 refine all_then fun n => ?_
 refine all_ite (fun hn => ?_) fun _ => all_pure (fun q => absurd q (by decide))
 have hn : 0 ≤ n ∧ n ≤ 32 := of_decide_eq_true hn
 refine all_ite (fun _ => ?_) fun _ => all_pure (fun q => absurd q (by decide))
 refine all_then fun x => ?_
 refine all_ite (fun _ => all_pure (fun q => absurd q (by decide))) fun hx => ?_
 refine all_then fun r => ?_
 refine all_ite (fun _ => all_pure (fun q => absurd q (by decide))) fun _ => ?_
 refine all_then fun y => ?_
 refine all_ite (fun _ => all_pure (fun q => absurd q (by decide))) fun _ => all_pure (fun _ => ?_)
 dsimp only
 exact ⟨by omega, by omega, by omega, rfl⟩
theorem He.all_many (H : He) : Pg.All (fun r => r.2 = true → 0 ≤ r.1 ∧ r.1 ≤ 32) H.many := by
 unfold He.many
 exact all_then fun n => all_pure (fun h => of_decide_eq_true h)
end Sim
namespace Go.Vc
section
variable {P : Program} {w0 : World} {n : Nat} {sh sh0 : Shared} {k : List Item} {ρ : Env} {Γ : List Asn} {fn : Func} {R : Value → List Asn → Prop}
theorem ends_4 {r1 r2 r3 r4 : ResultVar} {v1 v2 v3 v4 : Value} (hr : fn.results = #[r1, r2, r3, r4]) (h1 : ResOk P w0 sh ρ Γ r1 v1) (h2 : ResOk P w0 sh ρ Γ r2 v2) (h3 : ResOk P w0 sh ρ Γ r3 v3) (h4 : ResOk P w0 sh ρ Γ r4 v4)
   (h : R (.tuple #[v1, v2, v3, v4]) Γ) : Ends P w0 sh fn ρ Γ R :=
 fun hF a w hsh ha hst => ⟨_, Γ, by
   rw [results_eq, hr]
   have e1 := resOk_run h1 hsh ha hst
   have e2 := resOk_run h2 hsh ha hst
   have e3 := resOk_run h3 hsh ha hst
   have e4 := resOk_run h4 hsh ha hst
   simp only [Array.mapM_eq_mapM_toList, List.mapM_cons, List.mapM_nil, Sem.run_bind, Sem.run_map, Sem.run_pure, Result.andThen_ok, e1, e2, e3, e4]
   rfl, h, hst⟩
theorem ret_tmp4 {t u v x : Tmp} (hr : fn.results = #[.tmp t, .tmp u, .tmp v, .tmp x]) (h : R (.tuple #[ρ t, ρ u, ρ v, ρ x]) Γ) : Run P w0 n sh (retQ P w0 sh0 fn R) (.code .ret :: k) ρ [] Γ :=
 zeg (zek (ends_4 hr rfl rfl rfl rfl h))
end
end Go.Vc
namespace Go.Proofs.YtgdhcgnmffgkiaaGreatDoor
variable (w0 : World)
open Go.Vc Sim
set_option maxHeartbeats 4000000
abbrev enc3 (r : (Int × Int) × Int) : Value := .tuple #[.int .i64 r.1.1, .int .i64 r.1.2, .int .i64 r.2]
theorem heRemove (p wb : Nat) (H : He) (hH : H.Ok) (x n : Int) (hx : 1 ≤ x ∧ x ≤ n) (hn : n ≤ 32) : FnW w0 156 [.pointer (some ⟨wb, 0, none⟩), .int .i64 x, .int .i64 n] p wb H false (H.remove x n) enc3 := by
 intro s hS; have hG := At.start hS; generalize Pg.run _ s = R at hG ⊢
 simp only [He.remove] at hG
 refine zep en156 fn156 rfl rfl rfl ?_
 refine zyr ?_
 repeat' refine zp ?_
 all_goals refine zyn ?_
 refine zyr ?_
 repeat' first|(refine zap rfl ?_;first|refine zdp [0, 0] hG (heItem w0 p wb H hH _ x (by omega)) rfl rfl rfl (fun it c s hG => ?_)|refine zdp [0, 0] hG (heItem w0 p wb H hH _ n (by omega)) rfl rfl rfl (fun la d s hG => ?_))|refine zp ?_|refine zyn ?_
 dsimp only at hG
 refine zyr ?_
 repeat' first|(refine zap rfl ?_;first|refine zdn [0, 0] hG (heGet w0 p wb H _ it 0) rfl rfl rfl (fun pr s hG => ?_)|refine zdn [0, 0] hG (heGet w0 p wb H _ it 1) rfl rfl rfl (fun v s hG => ?_))|refine zp ?_|refine zyn ?_
 refine zyr ?_
 repeat' first|(refine zap rfl ?_;refine zdp [0, 0] hG (heRow w0 p wb H hH _ n (by omega)) rfl rfl rfl (fun r e s hG => ?_))|refine zp ?_|refine zyn ?_
 dsimp only at hG
 refine zyr ?_
 repeat' first|(refine zap rfl ?_;refine zab 1 rfl rfl rfl ?_)|refine zp ?_|refine zyf rfl ?_|refine zyn ?_
 cases e with
 | true =>
   rw [if_pos rfl] at hG
   refine zci rfl ?_
   repeat' first|refine zck ?_|refine zyq ?_|refine zp ?_|refine zch ?_
   rw [hG.done]
   exact ret_tmp3 rfl ⟨rfl, rfl⟩
 | false =>
   rw [if_neg (by decide)] at hG
   refine zcj rfl ?_
   refine zyr ?_
   repeat' first|(refine zap rfl ?_;refine zdn [0, 0] hG (heAdd w0 p wb H false _ _) rfl rfl rfl (fun _ s hG => ?_))|refine zp ?_|refine zyn ?_
   refine zyr ?_
   repeat' first|(refine zap rfl ?_;refine zbp rfl rfl ?_)|refine zp ?_|refine zyn ?_
   refine run_join (S := Bool × Sp) (fun _ => [(0, .pointer (some ⟨wb, 0, none⟩)), (2, .int .i64 n), (9, .int .i64 it), (11, .int .i64 pr), (12, .int .i64 v), (13, .int .i64 r), (14, .int .i64 ((n - 1) % 8))])
     (fun z Γ => Γ = [SpaceA p z.2, hwA wb p H z.1] ∧ At R (H.rmRow n pr v it r z.1) z.2) ?_ ?_
   · refine zed rfl (fun hk => ?_) (fun hk => ?_)
     · rw [if_neg hk] at hG
       refine zyr ?_
       repeat' first|(refine zap rfl ?_;first|refine zdp [0, 0] hG (heRise w0 p wb H hH false x la (by omega)) rfl rfl rfl (fun q e s hG => ?_)|refine zbo rfl rfl ?_)|refine zp ?_|refine zyn ?_
       dsimp only at hG
       by_cases hq : q = x
       · rw [if_pos hq] at hG
         refine zed rfl (fun _ => ?_) (fun hc => absurd hq hc)
         repeat' first|refine zyq ?_|(refine zap rfl ?_;first|refine zdp [0, 0] hG (heSink w0 p wb H hH _ x la (n - 1) (by omega) (by omega)) rfl rfl rfl (fun _ g s hG => ?_)|refine zav rfl rfl (by omega) ?_)|refine zp ?_|refine zch ?_
         exact zeq ⟨rfl, (g, s), ⟨rfl, rfl, rfl, rfl, rfl, rfl, rfl, trivial⟩, ⟨rfl, hG⟩⟩
       · rw [if_neg hq] at hG
         refine zed rfl (fun hc => absurd hc hq) (fun _ => ?_)
         repeat' first|refine zcm ?_|refine zp ?_|refine zch ?_
         exact zeq ⟨rfl, (e, s), ⟨rfl, rfl, rfl, rfl, rfl, rfl, rfl, trivial⟩, ⟨rfl, hG⟩⟩
     · have hk : x = n := Decidable.not_not.1 hk
       rw [if_pos hk] at hG
       repeat' first|refine zcm ?_|refine zp ?_|refine zch ?_
       exact zeq ⟨rfl, (false, s), ⟨rfl, rfl, rfl, rfl, rfl, rfl, rfl, trivial⟩, ⟨rfl, hG⟩⟩
   rintro ⟨b, s⟩ Γ junk ⟨rfl, hG⟩
   dsimp only at hG ⊢
   refine zyr ?_
   repeat' first|(refine zap rfl ?_;refine zbo rfl rfl ?_)|refine zp ?_|refine zyn ?_
   refine run_join (S := Sp) (fun _ => [(0, .pointer (some ⟨wb, 0, none⟩)), (9, .int .i64 it), (11, .int .i64 pr), (12, .int .i64 v)])
     (fun z Γ => Γ = [SpaceA p z, hwA wb p H b] ∧ At R (H.rmEnd pr v it b) z) ?_ ?_
   · unfold He.rmRow at hG
     refine zed rfl (fun hk => ?_) (fun hk => ?_)
     · rw [if_pos hk] at hG
       have h38 := wrap64_id (m := 3 + (n - 1) / 8) (by omega) (by omega)
       refine zyx ?_
       first|refine zcp (by kernel_rfl) ?_|refine zeh PP_mixed (by kernel_rfl) (by kernel_rfl) ?_
       repeat' first|(refine zap rfl ?_;first|refine zdv rfl rfl h38 ?_|refine zdu rfl rfl ?_|refine zab 1 rfl rfl rfl ?_|refine zdk [0] hG (putG w0 p _ _) rfl rfl rfl zdj (fun u s hG => ?_)|refine zav rfl rfl (by omega) ?_|refine zax rfl rfl (by omega) ?_)|refine zp ?_|refine zyf rfl ?_|refine zyn ?_
       refine zyr ?_
       repeat' first|(refine zap rfl ?_;refine zdn [0, 0] hG (heGive w0 p wb H hH b r) rfl rfl rfl (fun e s hG => ?_))|refine zp ?_|refine zyn ?_
       by_cases he : e = 0
       · rw [if_neg (fun q => q he)] at hG
         repeat' first|refine zcm ?_|refine zyq ?_|(refine zap rfl ?_;refine zbf rfl rfl (by omega) ?_)|refine zp ?_|refine zch ?_|refine zcj rfl ?_
         exact zeq ⟨rfl, s, ⟨rfl, rfl, rfl, rfl, trivial⟩, ⟨rfl, hG⟩⟩
       · rw [if_pos he] at hG
         rw [hG.done]
         repeat' first|refine zck ?_|refine zyq ?_|(refine zap rfl ?_;refine zbe rfl rfl (by omega) ?_)|refine zp ?_|refine zch ?_|refine zci rfl ?_
         exact cut_ret (zek (ends_three rfl rfl rfl rfl ⟨rfl, rfl⟩))
     · rw [if_neg hk] at hG
       repeat' first|refine zcm ?_|refine zp ?_|refine zch ?_
       exact zeq ⟨rfl, s, ⟨rfl, rfl, rfl, rfl, trivial⟩, ⟨rfl, hG⟩⟩
   rintro s Γ junk ⟨rfl, hG⟩
   unfold He.rmEnd at hG
   refine zyr ?_
   repeat' first|(refine zap rfl ?_;refine zdn [0, 0] hG (heGive w0 p wb H hH b it) rfl rfl rfl (fun e s hG => ?_))|refine zp ?_|refine zyn ?_
   by_cases he : e = 0
   rotate_left
   · rw [if_pos he] at hG
     rw [hG.done]
     repeat' first|refine zck ?_|refine zyq ?_|(refine zap rfl ?_;refine zbe rfl rfl (by omega) ?_)|refine zp ?_|refine zch ?_|refine zci rfl ?_
     exact ret_tmp3 rfl ⟨rfl, rfl⟩
   rw [if_neg (fun q => q he)] at hG
   cases b with
   | true =>
     rw [if_pos rfl] at hG
     rw [hG.done]
     repeat' first|refine zck ?_|refine zcm ?_|refine zyq ?_|(refine zap rfl ?_;first|refine zab 1 rfl rfl rfl ?_|refine zbf rfl rfl (by omega) ?_)|refine zp ?_|refine zyf rfl ?_|refine zch ?_|refine zci rfl ?_|refine zcj rfl ?_
     exact ret_tmp3 rfl ⟨rfl, rfl⟩
   | false =>
     rw [if_neg (by decide)] at hG
     rw [hG.done]
     repeat' first|refine zck ?_|refine zcm ?_|refine zyq ?_|(refine zap rfl ?_;first|refine zab 1 rfl rfl rfl ?_|refine zbf rfl rfl (by omega) ?_)|refine zp ?_|refine zyf rfl ?_|refine zch ?_|refine zcj rfl ?_
     exact ret_tmp3 rfl ⟨rfl, rfl⟩
theorem heFind (p wb : Nat) (H : He) (hH : H.Ok) (h : Int) : FnW w0 159 [.pointer (some ⟨wb, 0, none⟩), .int .i64 h] p wb H false (H.find h) (fun r => .tuple #[.int .i64 r.1.1, .int .i64 r.1.2, .int .i64 r.2.1, .int .i64 r.2.2]) := by
 intro s hS; have hG := At.start hS; generalize Pg.run _ s = R at hG ⊢
 unfold He.find at hG
 refine zep en159 fn159 rfl rfl rfl ?_
 refine zyr ?_
 repeat' refine zp ?_
 all_goals refine zyn ?_
 refine zyr ?_
 repeat' first|(refine zap rfl ?_;refine zdo [0, 0] hG H.all_many (heMany w0 p wb H false) rfl rfl rfl (fun n s hn hG => ?_))|refine zp ?_|refine zyn ?_
 obtain ⟨n, ok⟩ := n
 dsimp only at hG hn
 cases ok with
 | false =>
   rw [if_neg (by decide)] at hG
   rw [hG.done]
   repeat' first|refine zck ?_|refine zyq ?_|(refine zap rfl ?_;refine zbx rfl ?_)|refine zp ?_|refine zch ?_|refine zci rfl ?_
   exact ret_tmp4 rfl ⟨rfl, rfl⟩
 | true =>
   rw [if_pos rfl] at hG
   have hn := hn rfl
   refine zyr ?_
   repeat' first|(refine zap rfl ?_;refine zbx rfl ?_)|refine zp ?_|refine zyn ?_
   refine zcj rfl ?_
   have kn := node_spec w0 H.pool hH.1 h
   cases hN : H.pool.node h with
   | false =>
     rw [hN, if_neg (by decide)] at hG
     rw [hN] at kn
     rw [hG.done]
     repeat' first|refine zck ?_|refine zcm ?_|refine zyq ?_|(refine zap rfl ?_;first|refine zbx rfl ?_|refine zab 1 rfl rfl rfl ?_|refine zah [] kn rfl rfl rfl zdj rfl ?_)|refine zp ?_|refine zyf rfl ?_|refine zch ?_|refine zci rfl ?_
     exact ret_tmp4 rfl ⟨rfl, rfl⟩
   | true =>
     rw [hN, if_pos rfl] at hG
     rw [hN] at kn
     refine zyr ?_
     repeat' refine zp ?_
     all_goals refine zyn ?_
     refine zyr ?_
     repeat' first|(refine zap rfl ?_;first|refine zab 1 rfl rfl rfl ?_|refine zah [] kn rfl rfl rfl zdj rfl ?_)|refine zp ?_|refine zyf rfl ?_|refine zyn ?_
     refine zyr ?_
     repeat' first|(refine zap rfl ?_;refine zbx rfl ?_)|refine zp ?_|refine zyn ?_
     refine zcj rfl ?_
     refine zyr ?_
     repeat' first|(refine zap rfl ?_;refine zdn [0, 0] hG (heGet w0 p wb H _ h 3) rfl rfl rfl (fun x s hG => ?_))|refine zp ?_|refine zyn ?_
     by_cases hx1 : x < 1
     · rw [if_pos (.inl hx1)] at hG
       rw [hG.done]
       repeat' first|refine zck ?_|refine zyq ?_|(refine zap rfl ?_;first|refine zak rfl ?_|refine zbg rfl rfl (by omega) ?_|refine zbu rfl ?_)|refine zp ?_|refine zch ?_|refine zci rfl ?_
       exact ret_tmp4 rfl ⟨rfl, rfl⟩
     by_cases hx2 : n < x
     · rw [if_pos (.inr hx2)] at hG
       rw [hG.done]
       repeat' first|refine zck ?_|refine zyq ?_|(refine zap rfl ?_;first|refine zaj rfl ?_|refine zbh rfl rfl (by omega) ?_|refine zbk rfl rfl (by omega) ?_|refine zbv rfl ?_)|refine zp ?_|refine zch ?_|refine zci rfl ?_
       exact ret_tmp4 rfl ⟨rfl, rfl⟩
     rw [if_neg (by omega)] at hG
     refine zyr ?_
     repeat' first|(refine zap rfl ?_;first|refine zaj rfl ?_|refine zbh rfl rfl (by omega) ?_|refine zbl rfl rfl (by omega) ?_|refine zbv rfl ?_)|refine zp ?_|refine zyn ?_
     refine zcj rfl ?_
     refine zyr ?_
     repeat' first|(refine zap rfl ?_;refine zdp [0, 0] hG (heRow w0 p wb H hH _ x (by omega)) rfl rfl rfl (fun r e s hG => ?_))|refine zp ?_|refine zyn ?_
     dsimp only at hG
     cases e with
     | true =>
       rw [if_pos rfl] at hG
       rw [hG.done]
       repeat' first|refine zck ?_|refine zyq ?_|(refine zap rfl ?_;refine zab 1 rfl rfl rfl ?_)|refine zp ?_|refine zyf rfl ?_|refine zch ?_|refine zci rfl ?_
       exact ret_tmp4 rfl ⟨rfl, rfl⟩
     | false =>
       rw [if_neg (by decide)] at hG
       refine zyr ?_
       repeat' first|(refine zap rfl ?_;refine zab 1 rfl rfl rfl ?_)|refine zp ?_|refine zyf rfl ?_|refine zyn ?_
       refine zcj rfl ?_
       refine zyr ?_
       repeat' first|(refine zap rfl ?_;first|refine zdn [0, 0] hG (heGet w0 p wb H _ r _) rfl rfl rfl (fun y s hG => ?_)|refine zbp rfl rfl ?_)|refine zp ?_|refine zyn ?_
       refine zed rfl (fun hy => ?_) (fun hy => ?_)
       · rw [if_pos hy] at hG
         rw [hG.done]
         repeat' first|refine zck ?_|refine zyq ?_|refine zp ?_|refine zch ?_
         exact ret_tmp4 rfl ⟨rfl, rfl⟩
       · rw [if_neg hy] at hG
         rw [hG.done]
         repeat' first|refine zck ?_|refine zcm ?_|refine zcn ?_|refine zyq ?_|refine zp ?_|refine zch ?_
         exact ret_tmp4 rfl ⟨rfl, rfl⟩
abbrev heV (H : He) : Value := .agg (List.toArray [.int .i64 H.pool.root, .int .i64 H.pool.frm, .int .i64 H.pool.nodes, .int .i64 H.root])
abbrev clI (vb : Nat) (v : Int) : Asn := pt vb (.cells (List.toArray [.int .i64 v]) 2 (0, 0))
theorem heEnd (p wb : Nat) (H : He) (s : Sp) (m eb : Nat) (b : Bool) (e : Int) : FnD PP w0 [] 149 [.pointer (some ⟨wb, 0, none⟩), .int .i64 m, .pointer (some ⟨eb, 0, none⟩)] [SpaceA p s, hwA wb p H b, erV eb e]
    fun v Γ' => v = .tuple #[] ∧ Γ' = [SpaceA p (if He.endE e b ≠ 0 then s.back m else s), hwA wb p H b, erV eb (He.endE e b)] := by
  refine fnD_of_run en149 fn149 rfl rfl rfl ?_
 
  by_cases he : e = 0
  · subst he
    cases b with
    | true =>
      repeat' first|refine zck ?_|refine zyq ?_|(refine zap rfl ?_;first|refine zaj rfl ?_|refine zab 1 rfl rfl rfl ?_|refine zab 2 rfl rfl rfl ?_|refine zah [0] (back_spec w0 p s m) rfl rfl rfl zdj rfl ?_|refine zbc rfl rfl (by omega) ?_|refine zbe rfl rfl (by omega) ?_|refine zbu rfl ?_|refine zae 2 rfl rfl rfl rfl rfl rfl rfl ?_)|refine zp ?_|refine zyf rfl ?_|refine zch ?_|refine zci rfl ?_
      exact run_nil ⟨rfl, ends_none rfl ⟨rfl, rfl⟩⟩
    | false =>
      repeat' first|refine zck ?_|refine zcm ?_|refine zyq ?_|(refine zap rfl ?_;first|refine zak rfl ?_|refine zab 1 rfl rfl rfl ?_|refine zab 2 rfl rfl rfl ?_|refine zbf rfl rfl (by omega) ?_|refine zbv rfl ?_)|refine zp ?_|refine zyf rfl ?_|refine zch ?_|refine zcj rfl ?_
      exact run_nil ⟨rfl, ends_none rfl ⟨rfl, rfl⟩⟩
  · have hE : He.endE e b = e := by unfold He.endE; rw [if_neg (fun q => he q.2)]
    rw [hE, if_pos he]
    cases b with
    | true =>
      repeat' first|refine zck ?_|refine zcm ?_|refine zyq ?_|(refine zap rfl ?_;first|refine zaj rfl ?_|refine zab 1 rfl rfl rfl ?_|refine zab 2 rfl rfl rfl ?_|refine zah [0] (back_spec w0 p s m) rfl rfl rfl zdj rfl ?_|refine zbd rfl rfl (by omega) ?_|refine zbe rfl rfl (by omega) ?_|refine zbu rfl ?_)|refine zp ?_|refine zyf rfl ?_|refine zch ?_|refine zci rfl ?_|refine zcj rfl ?_
      exact run_nil ⟨rfl, ends_none rfl ⟨rfl, rfl⟩⟩
    | false =>
      repeat' first|refine zck ?_|refine zcm ?_|refine zyq ?_|(refine zap rfl ?_;first|refine zak rfl ?_|refine zab 1 rfl rfl rfl ?_|refine zab 2 rfl rfl rfl ?_|refine zah [0] (back_spec w0 p s m) rfl rfl rfl zdj rfl ?_|refine zbe rfl rfl (by omega) ?_|refine zbv rfl ?_)|refine zp ?_|refine zyf rfl ?_|refine zch ?_|refine zci rfl ?_|refine zcj rfl ?_
      exact run_nil ⟨rfl, ends_none rfl ⟨rfl, rfl⟩⟩
theorem heNone (wb vb eb : Nat) (v e : Int) : FnD PP w0 [] 148 [.pointer (some ⟨wb, 0, none⟩), .pointer (some ⟨vb, 0, none⟩), .pointer (some ⟨eb, 0, none⟩)] [clI vb v, erV eb e]
    fun r Γ' => r = .tuple #[] ∧ Γ' = [clI vb (if e ≠ 0 then 0 else v), erV eb e] := by
  refine fnD_of_run en148 fn148 rfl rfl rfl ?_
 
  by_cases he : e = 0
  · rw [if_neg (fun q => q he)]
    repeat' first|refine zck ?_|refine zcm ?_|refine zyq ?_|(refine zap rfl ?_;first|refine zab 1 rfl rfl rfl ?_|refine zbf rfl rfl (by omega) ?_)|refine zp ?_|refine zch ?_|refine zcj rfl ?_
    exact run_nil ⟨rfl, ends_none rfl ⟨rfl, rfl⟩⟩
  · rw [if_pos he]
    repeat' first|refine zck ?_|refine zyq ?_|(refine zap rfl ?_;first|refine zab 1 rfl rfl rfl ?_|refine zbe rfl rfl (by omega) ?_|refine zae 0 rfl rfl rfl rfl rfl rfl rfl ?_)|refine zp ?_|refine zch ?_|refine zci rfl ?_
    exact run_nil ⟨rfl, ends_none rfl ⟨rfl, rfl⟩⟩
def heD (wb eb m : Nat) : Deferred := { target := .fn (.func 149) #[], args := List.toArray [.pointer (some ⟨wb, 0, none⟩), .int .i64 m, .pointer (some ⟨eb, 0, none⟩)] }
def heN (wb vb eb : Nat) : Deferred := { target := .fn (.func 148) #[], args := List.toArray [.pointer (some ⟨wb, 0, none⟩), .pointer (some ⟨vb, 0, none⟩), .pointer (some ⟨eb, 0, none⟩)] }
theorem heLen (p : Nat) (H : He) : FnG w0 [] 78 [heV H, spP p] p H.len (.int .i64) := by
 intro s hS
 have hG := (At.start hS).to (Pg.bind_pure _).symm
 generalize Pg.run _ s = R at hG ⊢
 unfold He.len at hG
 refine zep en78 fn78 rfl rfl rfl ?_
 refine zyr ?_
 repeat' first|(refine zap rfl ?_;refine zaq (cs := [_, _, _, _]) rfl (fun nb => ?_))|refine zp ?_|refine zyn ?_
 refine zeb [1] rfl ?_
 repeat' first|refine zyq ?_|(refine zap rfl ?_;first|refine zdu rfl rfl ?_|refine zdk [0] hG (getG w0 p _) rfl rfl rfl zdj (fun x s hG => ?_))|refine zp ?_|refine zyl 0 rfl ?_|refine zyf rfl ?_|refine zch ?_
 rw [hG.done]
 exact zej rfl ⟨rfl, rfl⟩
theorem heMin (p : Nat) (H : He) (hH : H.Ok) : FnG w0 [] 75 [heV H, spP p] p H.min enc3 := by
 intro s hS; have hG := At.start hS; generalize Pg.run _ s = R at hG ⊢
 unfold He.min at hG
 refine zep en75 fn75 rfl rfl rfl ?_
 refine zyr ?_
 repeat' first|(refine zap rfl ?_;refine zaq (cs := [_, _, _, _]) rfl (fun nb => ?_))|refine zp ?_|refine zyn ?_
 refine zeb [1] rfl ?_
 refine zyr ?_
 repeat' first|(refine zap rfl ?_;first|refine zaq (cs := [_, _, _, _, _, _]) rfl (fun wb => ?_)|refine zcb rfl ?_)|refine zp ?_|refine zyl 0 rfl ?_|refine zyn ?_
 refine zef 1 (hwA wb p H false) rfl (fun _ h => h) rfl ?_
 refine zyr ?_
 repeat' first|(refine zap rfl ?_;refine zdo [0, 0] hG H.all_many (heMany w0 p wb H false) rfl rfl rfl (fun n s hn hG => ?_))|refine zp ?_|refine zyn ?_
 obtain ⟨n, ok⟩ := n
 dsimp only at hG hn
 by_cases h0 : n = 0
 · rw [if_pos h0] at hG
   rw [hG.done]
   repeat' first|refine zck ?_|refine zyq ?_|(refine zap rfl ?_;refine zbc rfl rfl (by omega) ?_)|refine zp ?_|refine zch ?_|refine zci rfl ?_
   refine zec [0] rfl ?_
   exact ret_tmp3 rfl ⟨rfl, rfl⟩
 rw [if_neg h0] at hG
 refine zyr ?_
 repeat' first|(refine zap rfl ?_;refine zbd rfl rfl (by omega) ?_)|refine zp ?_|refine zyn ?_
 refine zcj rfl ?_
 cases ok with
 | false =>
   rw [if_neg (by decide)] at hG
   rw [hG.done]
   repeat' first|refine zck ?_|refine zcm ?_|refine zyq ?_|(refine zap rfl ?_;refine zbx rfl ?_)|refine zp ?_|refine zch ?_|refine zci rfl ?_
   refine zec [0] rfl ?_
   exact ret_tmp3 rfl ⟨rfl, rfl⟩
 | true =>
   rw [if_pos rfl] at hG
   refine zyr ?_
   repeat' first|(refine zap rfl ?_;refine zbx rfl ?_)|refine zp ?_|refine zyn ?_
   refine zcj rfl ?_
   refine zyr ?_
   repeat' first|(refine zap rfl ?_;refine zdp [0, 0] hG (heItem w0 p wb H hH _ 1 (by decide)) rfl rfl rfl (fun it c s hG => ?_))|refine zp ?_|refine zyn ?_
   dsimp only at hG
   refine zyr ?_
   repeat' first|(refine zap rfl ?_;first|refine zdn [0, 0] hG (heGet w0 p wb H _ it 0) rfl rfl rfl (fun pr s hG => ?_)|refine zdn [0, 0] hG (heGet w0 p wb H _ it 1) rfl rfl rfl (fun v s hG => ?_))|refine zp ?_|refine zyn ?_
   cases c with
   | true =>
     rw [if_pos rfl] at hG
     rw [hG.done]
     repeat' first|refine zck ?_|refine zyq ?_|(refine zap rfl ?_;refine zab 1 rfl rfl rfl ?_)|refine zp ?_|refine zyf rfl ?_|refine zch ?_|refine zci rfl ?_
     refine zec [0] rfl ?_
     exact ret_tmp3 rfl ⟨rfl, rfl⟩
   | false =>
     rw [if_neg (by decide)] at hG
     rw [hG.done]
     repeat' first|refine zck ?_|refine zcm ?_|refine zyq ?_|(refine zap rfl ?_;refine zab 1 rfl rfl rfl ?_)|refine zp ?_|refine zyf rfl ?_|refine zch ?_|refine zcj rfl ?_
     refine zec [0] rfl ?_
     exact ret_tmp3 rfl ⟨rfl, rfl⟩
theorem hePop_fin (p wb eb m : Nat) (H : He) (R : ((Int × Int) × Int) × Sp) (pr v e : Int) (b : Bool) (s : Sp) (ρ : Env) (h4 : ρ 4 = .int .i64 pr) (h5 : ρ 5 = .int .i64 v) (h6 : ρ 6 = .pointer (some ⟨eb, 0, none⟩)) (hG : At R (He.after3 m ((pr, v), e) b) s) :
   LeavesS PP w0 [] Tryz.f74 ρ [heD wb eb m] [SpaceA p s, hwA wb p H b, erV eb e] (fun v Γ => v = enc3 R.1 ∧ Γ = [SpaceA p R.2]) := by
 refine leaves_defer1 [0, 0, 0] (heEnd w0 p wb H s m eb b e) rfl rfl zdj ?_
 refine zek (zel [0] rfl (ends_three rfl h4 h5 (zeo 2 h6 rfl rfl) ?_))
 refine ⟨rfl, ?_⟩
 unfold He.after3 at hG
 by_cases hE : He.endE e b ≠ 0
 · dsimp only at hG
   rw [if_pos hE] at hG
   rw [hG.step.2.done, if_pos hE]
   exact ⟨rfl, rfl⟩
 · dsimp only at hG
   rw [if_neg hE] at hG
   rw [hG.done, if_neg hE]
   exact ⟨rfl, rfl⟩
theorem hePop (p : Nat) (H : He) (hH : H.Ok) : FnG w0 [] 74 [heV H, spP p] p H.pop enc3 := by
 intro s hS; have hG := At.start hS; generalize Pg.run _ s = R at hG ⊢
 simp only [He.pop, He.popIn, Pg.bind_assoc, Pg.ite_bind, Pg.pure_bind] at hG
 refine zep en74 fn74 rfl rfl rfl ?_
 refine zyr ?_
 repeat' first|(refine zap rfl ?_;first|refine zar (fun eb => ?_)|refine zaq (cs := [_, _, _, _]) rfl (fun nb => ?_))|refine zp ?_|refine zyn ?_
 refine zeb [1] rfl ?_
 refine zyr ?_
 repeat' first|(refine zap rfl ?_;first|refine zaq (cs := [_, _, _, _, _, _]) rfl (fun wb => ?_)|refine zcb rfl ?_)|refine zp ?_|refine zyl 0 rfl ?_|refine zyn ?_
 refine zef 2 (hwA wb p H false) rfl (fun _ h => h) rfl ?_
 refine zec [0, 1, 0] rfl ?_
 refine zyr ?_
 repeat' first|(refine zap rfl ?_;first|refine zcd rfl rfl ?_|refine zdk [0] hG (markG w0 p) rfl rfl rfl zdj (fun m s hG => ?_))|refine zp ?_|refine zyn ?_
 refine zyr ?_
 repeat' first|(refine zap rfl ?_;refine zdo [0, 0] hG H.all_many (heMany w0 p wb H false) rfl rfl rfl (fun n s hn hG => ?_))|refine zp ?_|refine zyn ?_
 obtain ⟨n, ok⟩ := n
 dsimp only at hG hn
 by_cases h0 : n = 0
 · rw [if_pos h0] at hG
   repeat' first|refine zck ?_|refine zyq ?_|(refine zap rfl ?_;first|refine zbc rfl rfl (by omega) ?_|refine zae 2 rfl rfl rfl rfl rfl rfl rfl ?_)|refine zp ?_|refine zch ?_|refine zci rfl ?_
   exact zeg (hePop_fin w0 p wb eb m H R 0 0 8 false s _ rfl rfl rfl hG)
 rw [if_neg h0] at hG
 refine zyr ?_
 repeat' first|(refine zap rfl ?_;refine zbd rfl rfl (by omega) ?_)|refine zp ?_|refine zyn ?_
 refine zcj rfl ?_
 cases ok with
 | false =>
   rw [if_neg (by decide)] at hG
   repeat' first|refine zck ?_|refine zyq ?_|(refine zap rfl ?_;first|refine zbx rfl ?_|refine zae 2 rfl rfl rfl rfl rfl rfl rfl ?_)|refine zp ?_|refine zch ?_|refine zci rfl ?_
   exact zeg (hePop_fin w0 p wb eb m H R 0 0 24 false s _ rfl rfl rfl hG)
 | true =>
   rw [if_pos rfl] at hG
   have hn := hn rfl
   refine zyr ?_
   repeat' first|(refine zap rfl ?_;refine zbx rfl ?_)|refine zp ?_|refine zyn ?_
   refine zcj rfl ?_
   refine zyr ?_
   repeat' first|(refine zap rfl ?_;first|refine zdp [0, 0] hG (heRemove w0 p wb H hH 1 n (by omega) (by omega)) rfl rfl rfl (fun q c s hG => ?_)|refine zae 2 rfl rfl rfl rfl rfl rfl rfl ?_)|refine zp ?_|refine zyn ?_
   obtain ⟨⟨pr, v⟩, e⟩ := q
   exact zeg (hePop_fin w0 p wb eb m H R pr v e c s _ rfl rfl rfl hG)
end Go.Proofs.YtgdhcgnmffgkiaaGreatDoor
