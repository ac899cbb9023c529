import Derived.Test.YtgdhcgnmffgkiaaGreatDoorPart14
/- Own work: lemmas of this claim. -/
namespace Sim
open Go Go.Vc
theorem get_getF (s : Sp) (a : Int) : ((s.get a).2.get a).1 = (s.get a).1 := by
 unfold Sp.get Sp.reads
 by_cases he : s.ended = true
 · simp [he]
 · cases hk : lookW s.kn a with
   | none => simp [he]
   | some w => simp [he, hk, Sp.value]
namespace Fo
variable (F : Fo)
theorem check_run {x u : Int} {s s' : Sp} (h : Pg.run (F.check x) s = (u, s')) (hu : u = 0) : 1 ≤ x ∧ x ≤ (s'.get F.root).1 := by
 unfold Fo.check at h
 by_cases h1 : x < 1
 · rw [if_pos h1] at h; cases h; cases hu
 · rw [if_neg h1, Pg.run_bind] at h
   have e : Pg.run (Pg.gt F.root) s = s.get F.root := rfl
   rw [e] at h
   by_cases h2 : (s.get F.root).1 < x
   · rw [if_pos h2] at h; cases h; cases hu
   · rw [if_neg h2] at h
     cases h
     rw [get_getF]
     exact ⟨by omega, by omega⟩
theorem many_run {x : Int} {u : Int × Bool} {s s' : Sp} (h : Pg.run F.many s = (u, s')) (hu : u.2 = true) (hx : x ≤ (s.get F.root).1) : (0 ≤ u.1 ∧ u.1 ≤ 64) ∧ x ≤ 9223372036854775807 := by
 have e : Pg.run F.many s = (((s.get F.root).1, decide (0 ≤ (s.get F.root).1) && decide ((s.get F.root).1 ≤ 64)), (s.get F.root).2) := rfl
 rw [e] at h
 cases h
 simp only [Bool.and_eq_true, decide_eq_true_eq] at hu
 exact ⟨hu, by omega⟩
theorem find_rng {x : Int} {r : Int × Int} {s s' : Sp} (h : Pg.run (F.find x) s = (r, s')) (hr : r.2 = 0) : 1 ≤ r.1 ∧ r.1 ≤ 9223372036854775807 := by
 by_cases hx : x ≤ 9223372036854775807
 · have := Pg.all_run (s := s) (F.all_find x hx)
   rw [h] at this
   exact this hr
 · unfold Fo.find at h
   rw [Pg.run_bind] at h
   generalize hc : Pg.run (F.check x) s = c at h
   obtain ⟨e, s1⟩ := c
   dsimp only at h
   by_cases he : e = 0
   · rw [if_neg (not_not_intro he), Pg.run_bind] at h
     obtain ⟨_, hn⟩ := F.check_run hc he
     generalize hm : Pg.run F.many s1 = m at h
     obtain ⟨n, s2⟩ := m
     dsimp only at h
     by_cases hb : n.2 = true
     · exact absurd (F.many_run hm hb hn).2 hx
     · rw [if_neg hb] at h
       cases h
       cases hr
   · rw [if_pos he] at h
     cases h
     exact absurd hr he
theorem both_rng {x y : Int} {r : (Int × Int) × Int} {s s' : Sp} (h : Pg.run (F.both x y) s = (r, s')) (hr : r.2 = 0) : (1 ≤ r.1.1 ∧ r.1.1 ≤ 9223372036854775807) ∧ 1 ≤ r.1.2 ∧ r.1.2 ≤ 9223372036854775807 := by
 unfold Fo.both at h
 rw [Pg.run_bind] at h
 generalize Pg.run (F.check x) s = c1 at h
 obtain ⟨e1, s1⟩ := c1
 dsimp only at h
 by_cases h1 : e1 ≠ 0
 · rw [if_pos h1] at h; cases h; exact absurd hr h1
 rw [if_neg h1, Pg.run_bind] at h
 generalize Pg.run (F.check y) s1 = c2 at h
 obtain ⟨e2, s2⟩ := c2
 dsimp only at h
 by_cases h2 : e2 ≠ 0
 · rw [if_pos h2] at h; cases h; exact absurd hr h2
 rw [if_neg h2, Pg.run_bind] at h
 generalize h3 : Pg.run (F.find x) s2 = c3 at h
 obtain ⟨a, s3⟩ := c3
 dsimp only at h
 by_cases h4 : a.2 ≠ 0
 · rw [if_pos h4] at h; cases h; exact absurd hr h4
 rw [if_neg h4, Pg.run_bind] at h
 generalize h5 : Pg.run (F.find y) s3 = c4 at h
 obtain ⟨b, s4⟩ := c4
 dsimp only at h
 by_cases h6 : b.2 ≠ 0
 · rw [if_pos h6] at h; cases h; exact absurd hr h6
 rw [if_neg h6] at h
 cases h
 have h7 := F.find_rng h3 (by omega)
 have h8 := F.find_rng h5 (by omega)
 exact ⟨h7, h8⟩
end Fo
end Sim
namespace Go.Proofs.YtgdhcgnmffgkiaaGreatDoor
variable (w0 : World)
open Go.Vc Sim
set_option maxHeartbeats 4000000
section
variable {w0 : World} {n : Nat} {sh shf : Shared} {Q : Exit → Env → List Deferred → List Asn → Prop} {k : List Item} {ρ : Env} {df : List Deferred} {Γ Γr : List Asn}
variable {ops : Array Oper} {l : List (Fl × Nat × Oper)} {i : Nat} {ty : TypeId} {pos : String} {aft : Array Edge} {dst : Option Tmp}
variable {f : FuncId} {args : List Value} {fo : Operand} {cargs : Array Operand} {ats : Array TypeId} {first cap : Array Value}
theorem zdm (is : List Nat) {α β : Type} {R : β × Sp} {g : Pg α} {kk : α → Pg β} {s : Sp} {p : Nat} {enc : α → Value} (hG : At R (g >>= kk) s) (spec : FnG w0 shf f args p g enc)
   (hfo : ev ρ fo = .func (.func f) first cap) (hargs : first.toList ++ cargs.toList.map (ev ρ) ++ cap.toList = args)
   (hp : pick is Γ = some ([SpaceA p s], Γr)) (hsh : ∀ p ∈ shf, p ∈ sh) (h : ∀ x s', Pg.run g s = (x, s') → At R (kk x) s' → Reg PP w0 n sh Q ops l k (ρ.setO dst (enc x)) df (SpaceA p s' :: Γr)) :
   Reg PP w0 n sh Q ops ((Fl.loud, i, ⟨dst, .call ⟨.value fo, cargs, ats⟩, ty, pos, aft, none⟩) :: l) k ρ df Γ :=
 zah is (spec s hG.step.1) hfo hargs hp hsh rfl (h _ _ rfl hG.step.2)
end
theorem foFindT (p : Nat) (F : Fo) (hF : F.Ok) (x : Int) : FnG w0 [] 97 [foV F, spP p, .int .i64 x] p (F.find x) encI2 := by
 obtain ⟨_, h1, h2⟩ := id hF
 intro s hS; have hG := At.start hS; generalize Pg.run _ s = R at hG ⊢
 refine zep en97 fn97 rfl rfl rfl ?_
 refine zyr ?_
 repeat' (refine zap rfl ?_;first|refine zdw rfl rfl (by omega) ?_|refine zau rfl rfl (by omega) ?_|refine zdu rfl rfl ?_|refine zan rfl ?_|refine zaq (cs := [_, _, _, _]) rfl (fun nb => ?_))
 all_goals refine zyn ?_
 refine zeb [1] rfl ?_
 repeat' (first|refine zck ?_|refine zcp (by kernel_rfl) ?_|(refine zap rfl ?_;first|refine zdw rfl rfl (by omega) ?_|refine zau rfl rfl (by omega) ?_|refine zdu rfl rfl ?_|refine zan rfl ?_|refine zan rfl ?_|refine zaa 0 rfl rfl rfl ?_|refine zdm [0] hG (foCheck w0 p F hF x) rfl rfl rfl zdj (fun u s hq1 hG => ?_)|refine zbp rfl rfl ?_)|refine zch ?_)
 refine zed rfl (fun hE => ?_) (fun hE => ?_)
 · rw [if_pos hE] at hG
   rw [hG.done]
   repeat' (first|refine zck ?_|refine zcp (by kernel_rfl) ?_|(refine zap rfl ?_;first|refine zdw rfl rfl (by omega) ?_|refine zau rfl rfl (by omega) ?_|refine zdu rfl rfl ?_|refine zan rfl ?_|refine zan rfl ?_)|refine zch ?_)
   exact zei rfl ⟨rfl, rfl⟩
 · rw [if_neg hE] at hG
   obtain ⟨hx1, hxn⟩ := F.check_run hq1 (by omega)
   repeat' (first|refine zck ?_|refine zcp (by kernel_rfl) ?_|refine zcm ?_|(refine zap rfl ?_;first|refine zdw rfl rfl (by omega) ?_|refine zau rfl rfl (by omega) ?_|refine zdu rfl rfl ?_|refine zan rfl ?_|refine zan rfl ?_|refine zaa 0 rfl rfl rfl ?_|refine zdm [0] hG (foMany w0 p F hF) rfl rfl rfl zdj (fun u s hq2 hG => ?_)|refine zan rfl ?_|refine zbx rfl ?_)|refine zch ?_)
   refine zee rfl (fun hE => ?_) (fun hE => ?_)
   · have hE : u.2 = false := by simpa using hE
     simp only [hE, Bool.false_eq_true, if_false] at hG
     rw [hG.done]
     repeat' (first|refine zck ?_|refine zcp (by kernel_rfl) ?_|(refine zap rfl ?_;first|refine zdw rfl rfl (by omega) ?_|refine zau rfl rfl (by omega) ?_|refine zdu rfl rfl ?_|refine zan rfl ?_)|refine zch ?_)
     exact zei rfl ⟨rfl, rfl⟩
   · have hE : u.2 = true := by simpa using hE
     simp only [hE, if_true] at hG
     obtain ⟨hn, hx⟩ := F.many_run hq2 hE hxn
     refine zyr ?_
     repeat' (refine zap rfl ?_;first|refine zdw rfl rfl (by omega) ?_|refine zau rfl rfl (by omega) ?_|refine zdu rfl rfl ?_|refine zan rfl ?_|refine zaa 0 rfl rfl rfl ?_|refine zan rfl ?_)
     all_goals refine zyn ?_
     refine zyr ?_
     repeat' (refine zap rfl ?_;first|refine zdw rfl rfl (by omega) ?_|refine zau rfl rfl (by omega) ?_|refine zdu rfl rfl ?_|refine zan rfl ?_)
     all_goals refine zch ?_
     all_goals repeat (refine zck ?_)
     refine zcl ?_
     refine run_loop (S := Nat × Int × Sp) (fun st => [(3, .pointer (some ⟨nb, 0, none⟩)), (1, spP p), (2, .int .i64 st.2.1), (9, .int .i64 u.1), (11, .func (.func 189) #[foV F] #[]), (32, .int .i64 (st.1 : Int))])
       (fun st Γ => Γ = [SpaceA p st.2.2] ∧ At R (F.climb u.1 (65 - st.1) st.2.1) st.2.2 ∧ st.1 ≤ 65 ∧ 1 ≤ st.2.1 ∧ Fo.InX st.2.1) (fun st => 65 - st.1) (0, x, s) ⟨rfl, rfl, rfl, rfl, rfl, rfl, trivial⟩ ⟨rfl, hG, Nat.zero_le _, hx1, hx⟩ ?_
     rintro ⟨i, y, s⟩ Γ junk ⟨rfl, hG, hi, hy, hy2⟩
     dsimp only at hG hi hy hy2 ⊢
     by_cases hlt : i < 65
     · obtain ⟨k, hk⟩ : ∃ k, 65 - i = k + 1 := ⟨64 - i, by omega⟩
       rw [hk, Fo.climb] at hG
       repeat' (first|refine zck ?_|refine zcp (by kernel_rfl) ?_|refine zcm ?_|refine zcl ?_|(refine zap rfl ?_;first|refine zdw rfl rfl (by omega) ?_|refine zau rfl rfl (by omega) ?_|refine zdu rfl rfl ?_|refine zan rfl ?_|refine zan rfl ?_|refine zdl [0] hG (F.all_place y) (foPlace w0 p F hF y ⟨hy, hy2⟩) rfl rfl rfl zdj (fun c s hb hG => ?_)|refine zan rfl ?_|refine zbg rfl rfl (by omega) ?_|refine zbx rfl ?_)|refine zch ?_|refine zci rfl ?_)
       refine zee rfl (fun hE => ?_) (fun hE => ?_)
       · have hE : c.2 = false := by simpa using hE
         simp only [hE, Bool.false_eq_true, if_false] at hG
         rw [hG.done]
         repeat' (first|refine zck ?_|refine zcp (by kernel_rfl) ?_|(refine zap rfl ?_;first|refine zdw rfl rfl (by omega) ?_|refine zau rfl rfl (by omega) ?_|refine zdu rfl rfl ?_|refine zan rfl ?_)|refine zch ?_)
         exact qret2 (fun _ _ h => h) rfl ⟨rfl, rfl⟩
       · have hE : c.2 = true := by simpa using hE
         simp only [hE, if_true] at hG
         repeat' (first|refine zck ?_|refine zcp (by kernel_rfl) ?_|refine zcm ?_|refine zcl ?_|refine zcn ?_|(refine zap rfl ?_;first|refine zdw rfl rfl (by omega) ?_|refine zau rfl rfl (by omega) ?_|refine zdu rfl rfl ?_|refine zaj rfl ?_|refine zak rfl ?_|refine zam rfl rfl (fun _ => ?_) (fun _ => ?_)|refine zan rfl ?_|refine zan rfl ?_|refine zdk [0] hG (getG w0 p _) rfl rfl rfl zdj (fun v s hG => ?_)|refine zbo rfl rfl ?_|refine zbq rfl rfl ?_|refine zbs rfl rfl ?_|refine zbu rfl ?_|refine zbv rfl ?_)|refine zch ?_|refine zci rfl ?_|refine zed rfl (fun _ => ?_) (fun _ => ?_))
         · rename_i h0
           rw [if_pos h0] at hG
           rw [hG.done]
           exact qret2 (fun _ _ h => h) rfl ⟨rfl, rfl⟩
         · rename_i h0 h3
           rw [if_neg h0, if_pos (.inl h3)] at hG
           rw [hG.done]
           repeat' (first|refine zck ?_|(refine zap rfl ?_;first|refine zdw rfl rfl (by omega) ?_|refine zau rfl rfl (by omega) ?_|refine zdu rfl rfl ?_|refine zaj rfl ?_|refine zak rfl ?_|refine zal rfl ?_|refine zam rfl rfl (fun _ => ?_) (fun _ => ?_))|refine zch ?_)
           exact qret2 (fun _ _ h => h) rfl ⟨rfl, rfl⟩
         · rename_i h0 h3 h4
           rw [if_neg h0, if_pos (.inr h4)] at hG
           rw [hG.done]
           repeat' (first|refine zck ?_|(refine zap rfl ?_;first|refine zdw rfl rfl (by omega) ?_|refine zau rfl rfl (by omega) ?_|refine zdu rfl rfl ?_|refine zaj rfl ?_|refine zak rfl ?_|refine zal rfl ?_|refine zam rfl rfl (fun _ => ?_) (fun _ => ?_))|refine zch ?_)
           exact qret2 (fun _ _ h => h) rfl ⟨rfl, rfl⟩
         · rename_i h0 h3 h4
           rw [if_neg h0, if_neg (by omega)] at hG
           have e : 65 - (i + 1) = k := by omega
           repeat' (first|refine zck ?_|(refine zap rfl ?_;first|refine zdw rfl rfl (by omega) ?_|refine zau rfl rfl (by omega) ?_|refine zdu rfl rfl ?_|refine zaj rfl ?_|refine zak rfl ?_|refine zal rfl ?_|refine zam rfl rfl (fun _ => ?_) (fun _ => ?_))|refine zch ?_)
           exact zeq ⟨rfl, (i + 1, v, s), ⟨rfl, rfl, rfl, rfl, rfl, zes (by dsimp only; omega), trivial⟩, ⟨rfl, by dsimp only; rw [e]; exact hG, hlt, by dsimp only; omega, by unfold Fo.InX; dsimp only; omega⟩, by dsimp only; omega⟩
     · have e : 65 - i = 0 := by omega
       rw [e, Fo.climb] at hG
       rw [hG.done]
       repeat' (first|refine zck ?_|refine zcp (by kernel_rfl) ?_|(refine zap rfl ?_;first|refine zdw rfl rfl (by omega) ?_|refine zau rfl rfl (by omega) ?_|refine zdu rfl rfl ?_|refine zbh rfl rfl (by omega) ?_)|refine zch ?_|refine zcj rfl ?_)
       refine zer rfl rfl ?_
       repeat' (first|refine zck ?_|refine zcp (by kernel_rfl) ?_|(refine zap rfl ?_;first|refine zdw rfl rfl (by omega) ?_|refine zau rfl rfl (by omega) ?_|refine zdu rfl rfl ?_|refine zan rfl ?_)|refine zch ?_)
       exact zei rfl ⟨rfl, rfl⟩
theorem foBothT (p : Nat) (F : Fo) (hF : F.Ok) (x y : Int) : FnG w0 [] 191 [foV F, spP p, .int .i64 x, .int .i64 y] p (F.both x y) encPI := by
 obtain ⟨_, h1, h2⟩ := id hF
 intro s hS; have hG := At.start hS; generalize Pg.run _ s = R at hG ⊢
 refine zep en191 fn191 rfl rfl rfl ?_
 refine zyr ?_
 repeat' (refine zap rfl ?_;first|refine zdw rfl rfl (by omega) ?_|refine zau rfl rfl (by omega) ?_|refine zdu rfl rfl ?_|refine zan rfl ?_|refine zaq (cs := [_, _, _, _]) rfl (fun nb => ?_)|refine zar (fun nb => ?_))
 all_goals refine zyn ?_
 refine zeb [1] rfl ?_
 refine zyr ?_
 repeat' (refine zap rfl ?_;first|refine zdw rfl rfl (by omega) ?_|refine zau rfl rfl (by omega) ?_|refine zdu rfl rfl ?_|refine zan rfl ?_|refine zex rfl ?_)
 all_goals refine zyn ?_
 refine zet ?_
 repeat' (first|refine zck ?_|refine zcp (by kernel_rfl) ?_|refine zcm ?_|refine zcl ?_|(refine zap rfl ?_;first|refine zdw rfl rfl (by omega) ?_|refine zau rfl rfl (by omega) ?_|refine zdu rfl rfl ?_|refine zan rfl ?_|refine zan rfl ?_|refine zaa 0 rfl rfl rfl ?_|refine zdk [0] hG (foCheck w0 p F hF x) rfl rfl rfl zdj (fun u s hG => ?_)|refine zbg rfl rfl (by omega) ?_|refine zbp rfl rfl ?_|refine zea rfl rfl (by omega) rfl ?_)|refine zch ?_|refine zci rfl ?_)
 refine zed rfl (fun hE => ?_) (fun hE => ?_)
 · rw [if_pos hE] at hG
   rw [hG.done]
   repeat' (first|refine zck ?_|refine zcp (by kernel_rfl) ?_|(refine zap rfl ?_;first|refine zdw rfl rfl (by omega) ?_|refine zau rfl rfl (by omega) ?_|refine zdu rfl rfl ?_|refine zan rfl ?_|refine zan rfl ?_|refine zae 1 rfl rfl rfl rfl rfl rfl rfl ?_|refine zex rfl ?_)|refine zch ?_)
   exact zeg (zek (zel [0] rfl (zen rfl (zeo 1 rfl rfl rfl) rfl ⟨rfl, rfl, rfl⟩)))
 · rw [if_neg hE] at hG
   repeat' (first|refine zck ?_|refine zcp (by kernel_rfl) ?_|refine zcm ?_|refine zcl ?_|refine zcn ?_|refine zco ?_|(refine zap rfl ?_;first|refine zdw rfl rfl (by omega) ?_|refine zau rfl rfl (by omega) ?_|refine zdu rfl rfl ?_|refine zan rfl ?_|refine zan rfl ?_|refine zaa 0 rfl rfl rfl ?_|refine zdk [0] hG (foCheck w0 p F hF y) rfl rfl rfl zdj (fun u s hG => ?_)|refine zbg rfl rfl (by omega) ?_|refine zbp rfl rfl ?_|refine zea rfl rfl (by omega) rfl ?_)|refine zch ?_|refine zci rfl ?_)
   refine zed rfl (fun hE => ?_) (fun hE => ?_)
   · rw [if_pos hE] at hG
     rw [hG.done]
     repeat' (first|refine zck ?_|refine zcp (by kernel_rfl) ?_|(refine zap rfl ?_;first|refine zdw rfl rfl (by omega) ?_|refine zau rfl rfl (by omega) ?_|refine zdu rfl rfl ?_|refine zan rfl ?_|refine zan rfl ?_|refine zae 1 rfl rfl rfl rfl rfl rfl rfl ?_|refine zex rfl ?_)|refine zch ?_)
     exact zeg (zek (zel [0] rfl (zen rfl (zeo 1 rfl rfl rfl) rfl ⟨rfl, rfl, rfl⟩)))
   · rw [if_neg hE] at hG
     repeat' (first|refine zck ?_|refine zcp (by kernel_rfl) ?_|refine zcm ?_|refine zcl ?_|refine zcn ?_|refine zco ?_|refine zcs rfl ?_|(refine zap rfl ?_;first|refine zdw rfl rfl (by omega) ?_|refine zau rfl rfl (by omega) ?_|refine zdu rfl rfl ?_|refine zan rfl ?_|refine zbh rfl rfl (by omega) ?_|refine zar (fun nb => ?_)|refine zex rfl ?_)|refine zch ?_|refine zcj rfl ?_)
     refine zet ?_
     repeat' (first|refine zck ?_|refine zcp (by kernel_rfl) ?_|refine zcm ?_|refine zcl ?_|(refine zap rfl ?_;first|refine zdw rfl rfl (by omega) ?_|refine zau rfl rfl (by omega) ?_|refine zdu rfl rfl ?_|refine zan rfl ?_|refine zan rfl ?_|refine zaa 0 rfl rfl rfl ?_|refine zdk [0] hG (foFindT w0 p F hF x) rfl rfl rfl zdj (fun a s hG => ?_)|refine zan rfl ?_|refine zbg rfl rfl (by omega) ?_|refine zbp rfl rfl ?_|refine zea rfl rfl (by omega) rfl ?_)|refine zch ?_|refine zci rfl ?_)
     refine zed rfl (fun hE => ?_) (fun hE => ?_)
     · rw [if_pos hE] at hG
       rw [hG.done]
       repeat' (first|refine zck ?_|refine zcp (by kernel_rfl) ?_|(refine zap rfl ?_;first|refine zdw rfl rfl (by omega) ?_|refine zau rfl rfl (by omega) ?_|refine zdu rfl rfl ?_|refine zan rfl ?_|refine zan rfl ?_|refine zae 1 rfl rfl rfl rfl rfl rfl rfl ?_|refine zex rfl ?_)|refine zch ?_)
       exact zeg (zek (zel [0] rfl (zen rfl (zeo 1 rfl rfl rfl) rfl ⟨rfl, rfl, rfl⟩)))
     · rw [if_neg hE] at hG
       repeat' (first|refine zck ?_|refine zcp (by kernel_rfl) ?_|refine zcm ?_|refine zcl ?_|refine zcn ?_|refine zco ?_|(refine zap rfl ?_;first|refine zdw rfl rfl (by omega) ?_|refine zau rfl rfl (by omega) ?_|refine zdu rfl rfl ?_|refine zan rfl ?_|refine zan rfl ?_|refine zaa 0 rfl rfl rfl ?_|refine zdk [0] hG (foFindT w0 p F hF y) rfl rfl rfl zdj (fun b s hG => ?_)|refine zan rfl ?_|refine zbg rfl rfl (by omega) ?_|refine zbp rfl rfl ?_|refine zae 2 rfl rfl rfl rfl rfl rfl rfl ?_|refine zat rfl rfl (by omega) ?_|refine zea rfl rfl (by omega) rfl ?_)|refine zch ?_|refine zci rfl ?_)
       refine zed rfl (fun hE => ?_) (fun hE => ?_)
       · rw [if_pos hE] at hG
         rw [hG.done]
         repeat' (first|refine zck ?_|refine zcp (by kernel_rfl) ?_|(refine zap rfl ?_;first|refine zdw rfl rfl (by omega) ?_|refine zau rfl rfl (by omega) ?_|refine zdu rfl rfl ?_|refine zan rfl ?_|refine zan rfl ?_|refine zae 1 rfl rfl rfl rfl rfl rfl rfl ?_|refine zex rfl ?_)|refine zch ?_)
         exact zeg (zek (zel [0] rfl (zen rfl (zeo 1 rfl rfl rfl) rfl ⟨rfl, rfl, rfl⟩)))
       · rw [if_neg hE] at hG
         rw [hG.done]
         repeat' (first|refine zck ?_|refine zcp (by kernel_rfl) ?_|refine zcm ?_|refine zcn ?_|refine zco ?_|refine zcs rfl ?_|(refine zap rfl ?_;first|refine zdw rfl rfl (by omega) ?_|refine zau rfl rfl (by omega) ?_|refine zdu rfl rfl ?_|refine zan rfl ?_|refine zan rfl ?_|refine zab 2 rfl rfl rfl ?_|refine zbh rfl rfl (by omega) ?_|refine zae 1 rfl rfl rfl rfl rfl rfl rfl ?_|refine zae 2 rfl rfl rfl rfl rfl rfl rfl ?_|refine zat rfl rfl (by omega) ?_)|refine zch ?_|refine zcj rfl ?_)
         exact zeg (zek (zel [0] rfl (zen rfl (zeo 1 rfl rfl rfl) rfl ⟨rfl, rfl, rfl⟩)))
theorem foSameT (p : Nat) (F : Fo) (hF : F.Ok) (x y : Int) : FnG w0 [] 100 [foV F, spP p, .int .i64 x, .int .i64 y] p (F.same x y) encBI := by
 intro s hS; have hG := At.start hS; generalize Pg.run _ s = R at hG ⊢
 refine zep en100 fn100 rfl rfl rfl ?_
 refine zyr ?_
 repeat' (refine zap rfl ?_;first|refine zdw rfl rfl (by omega) ?_|refine zau rfl rfl (by omega) ?_|refine zdu rfl rfl ?_|refine zan rfl ?_|refine zaq (cs := [_, _, _, _]) rfl (fun nb => ?_))
 all_goals refine zyn ?_
 refine zeb [1] rfl ?_
 repeat' (first|refine zck ?_|refine zcp (by kernel_rfl) ?_|(refine zap rfl ?_;first|refine zea rfl rfl (by decide) rfl ?_|refine zdw rfl rfl (by omega) ?_|refine zau rfl rfl (by omega) ?_|refine zdu rfl rfl ?_|refine zaj rfl ?_|refine zak rfl ?_|refine zam rfl rfl (fun _ => ?_) (fun _ => ?_)|refine zan rfl ?_|refine zan rfl ?_|refine zaa 0 rfl rfl rfl ?_|refine zab 1 rfl rfl rfl ?_|refine zdk [0] hG (foBothT w0 p F hF x y) rfl rfl rfl zdj (fun u s hG => ?_)|refine zan rfl ?_|refine zbo rfl rfl ?_|refine zbu rfl ?_|refine zbv rfl ?_|refine zae 1 rfl rfl rfl rfl rfl rfl rfl ?_|refine zat rfl rfl (by omega) ?_|refine zar (fun nb => ?_))|refine zch ?_)
 all_goals rw [hG.done]
 all_goals (refine zec [0] rfl ?_;refine zei rfl ⟨?_, rfl⟩)
 all_goals refine congrArg Value.tuple (?_ : #[Value.bool _, .int .i64 _] = #[Value.bool _, .int .i64 _])
 all_goals simp_all
theorem foSizeT (p : Nat) (F : Fo) (hF : F.Ok) (x : Int) : FnG w0 [] 101 [foV F, spP p, .int .i64 x] p (F.sizeOf x) encI2 := by
 obtain ⟨_, h1, h2⟩ := id hF
 intro s hS; have hG := At.start hS; generalize Pg.run _ s = R at hG ⊢
 refine zep en101 fn101 rfl rfl rfl ?_
 refine zyr ?_
 repeat' (refine zap rfl ?_;first|refine zdw rfl rfl (by omega) ?_|refine zau rfl rfl (by omega) ?_|refine zdu rfl rfl ?_|refine zan rfl ?_|refine zaq (cs := [_, _, _, _]) rfl (fun nb => ?_))
 all_goals refine zyn ?_
 refine zeb [1] rfl ?_
 repeat' (first|refine zck ?_|refine zcp (by kernel_rfl) ?_|(refine zap rfl ?_;first|refine zdw rfl rfl (by omega) ?_|refine zau rfl rfl (by omega) ?_|refine zdu rfl rfl ?_|refine zan rfl ?_|refine zan rfl ?_|refine zaa 0 rfl rfl rfl ?_|refine zdm [0] hG (foFindT w0 p F hF x) rfl rfl rfl zdj (fun r s hr hG => ?_)|refine zan rfl ?_|refine zbp rfl rfl ?_)|refine zch ?_)
 refine zed rfl (fun hE => ?_) (fun hE => ?_)
 · rw [if_pos hE] at hG
   rw [hG.done]
   repeat' (first|refine zck ?_|refine zcp (by kernel_rfl) ?_|(refine zap rfl ?_;first|refine zdw rfl rfl (by omega) ?_|refine zau rfl rfl (by omega) ?_|refine zdu rfl rfl ?_|refine zan rfl ?_|refine zan rfl ?_)|refine zch ?_)
   exact zei rfl ⟨rfl, rfl⟩
 · rw [if_neg hE] at hG
   have hr := F.find_rng hr (by omega)
   repeat' (first|refine zck ?_|refine zcp (by kernel_rfl) ?_|refine zcm ?_|(refine zap rfl ?_;first|refine zdw rfl rfl (by omega) ?_|refine zau rfl rfl (by omega) ?_|refine zdu rfl rfl ?_|refine zan rfl ?_|refine zan rfl ?_|refine zaa 0 rfl rfl rfl ?_|refine zdl [0] hG (F.all_place r.1) (foPlace w0 p F hF r.1 hr) rfl rfl rfl zdj (fun u s hb hG => ?_)|refine zan rfl ?_|refine zbx rfl ?_)|refine zch ?_)
   refine zee rfl (fun hE => ?_) (fun hE => ?_)
   · have hE : u.2 = false := by simpa using hE
     simp only [hE, Bool.false_eq_true, if_false] at hG
     rw [hG.done]
     repeat' (first|refine zck ?_|refine zcp (by kernel_rfl) ?_|(refine zap rfl ?_;first|refine zdw rfl rfl (by omega) ?_|refine zau rfl rfl (by omega) ?_|refine zdu rfl rfl ?_|refine zan rfl ?_)|refine zch ?_)
     exact zei rfl ⟨rfl, rfl⟩
   · have hE : u.2 = true := by simpa using hE
     simp only [hE, if_true] at hG
     repeat' (first|refine zck ?_|refine zcp (by kernel_rfl) ?_|refine zcm ?_|(refine zap rfl ?_;first|refine zdw rfl rfl (by omega) ?_|refine zau rfl rfl (by omega) ?_|refine zdu rfl rfl ?_|refine zan rfl ?_|refine zan rfl ?_|refine zdk [0] hG (getG w0 p _) rfl rfl rfl zdj (fun u s hG => ?_))|refine zch ?_)
     rw [hG.done]
     exact zei rfl ⟨rfl, rfl⟩
theorem foUnionT (p : Nat) (F : Fo) (hF : F.Ok) (x y : Int) : FnG w0 [] 98 [foV F, spP p, .int .i64 x, .int .i64 y] p (F.union x y) encBI := by
 obtain ⟨_, h1, h2⟩ := id hF
 intro s hS; have hG := At.start hS; generalize Pg.run _ s = R at hG ⊢
 refine zep en98 fn98 rfl rfl rfl ?_
 refine zyr ?_
 repeat' (refine zap rfl ?_;first|refine zdw rfl rfl (by omega) ?_|refine zau rfl rfl (by omega) ?_|refine zdu rfl rfl ?_|refine zan rfl ?_|refine zaq (cs := [_, _, _, _]) rfl (fun nb => ?_))
 all_goals refine zyn ?_
 refine zeb [1] rfl ?_
 refine zyr ?_
 repeat' (refine zap rfl ?_;first|refine zdw rfl rfl (by omega) ?_|refine zau rfl rfl (by omega) ?_|refine zdu rfl rfl ?_|refine zan rfl ?_|refine zan rfl ?_|refine zaa 0 rfl rfl rfl ?_|refine zdm [0] hG (foBothT w0 p F hF x y) rfl rfl rfl zdj (fun r s hr hG => ?_)|refine zan rfl ?_|refine zae 1 rfl rfl rfl rfl rfl rfl rfl ?_|refine zar (fun nb => ?_))
 all_goals refine zyn ?_
 rename_i c10
 refine zeb [1] rfl ?_
 by_cases hE : r.2 ≠ 0
 · rw [if_pos (.inl hE)] at hG
   rw [hG.done]
   repeat' (first|refine zck ?_|refine zcp (by kernel_rfl) ?_|(refine zap rfl ?_;first|refine zdw rfl rfl (by omega) ?_|refine zau rfl rfl (by omega) ?_|refine zdu rfl rfl ?_|refine zak rfl ?_|refine zan rfl ?_|refine zan rfl ?_|refine zbe rfl rfl (by omega) ?_|refine zbu rfl ?_)|refine zch ?_|refine zci rfl ?_)
   exact zei rfl ⟨rfl, rfl⟩
 by_cases hE2 : r.1.1 = r.1.2
 · rw [if_pos (.inr hE2)] at hG
   rw [hG.done]
   repeat' (first|refine zck ?_|refine zcp (by kernel_rfl) ?_|(refine zap rfl ?_;first|refine zdw rfl rfl (by omega) ?_|refine zau rfl rfl (by omega) ?_|refine zdu rfl rfl ?_|refine zaj rfl ?_|refine zan rfl ?_|refine zan rfl ?_|refine zaa 0 rfl rfl rfl ?_|refine zbc rfl rfl (by omega) ?_|refine zbf rfl rfl (by omega) ?_|refine zbv rfl ?_|refine zat rfl rfl (by omega) ?_)|refine zch ?_|refine zci rfl ?_)
   exact zei rfl ⟨rfl, rfl⟩
 rw [if_neg (by omega)] at hG
 have hr := F.both_rng hr (by omega)
 unfold Fo.join at hG
 repeat' (first|refine zck ?_|refine zcp (by kernel_rfl) ?_|refine zcm ?_|refine zcl ?_|(refine zap rfl ?_;first|refine zdw rfl rfl (by omega) ?_|refine zau rfl rfl (by omega) ?_|refine zdu rfl rfl ?_|refine zaj rfl ?_|refine zan rfl ?_|refine zaa 0 rfl rfl rfl ?_|refine zbd rfl rfl (by omega) ?_|refine zbf rfl rfl (by omega) ?_|refine zbv rfl ?_|refine zat rfl rfl (by omega) ?_|refine zar (fun nb => ?_))|refine zch ?_|refine zcj rfl ?_)
 refine zet ?_
 repeat' (first|refine zck ?_|refine zcp (by kernel_rfl) ?_|refine zcq PP_mixed (by kernel_rfl) (by kernel_rfl) ?_|refine zcm ?_|refine zcl ?_|(refine zap rfl ?_;first|refine zdw rfl rfl (by omega) ?_|refine zau rfl rfl (by omega) ?_|refine zdu rfl rfl ?_|refine zan rfl ?_|refine zan rfl ?_|refine zaa 0 rfl rfl rfl ?_|refine zaa 1 rfl rfl rfl ?_|refine zdl [0] hG (F.all_place r.1.1) (foPlace w0 p F hF r.1.1 hr.1) rfl rfl rfl zdj (fun a s ha hG => ?_)|refine zan rfl ?_|refine zbg rfl rfl (by omega) ?_|refine zbx rfl ?_|refine zat rfl rfl (by omega) ?_)|refine zch ?_|refine zci rfl ?_)
 refine zee rfl (fun hE => ?_) (fun hE => ?_)
 · have hE : a.2 = false := by simpa using hE
   simp only [hE, Bool.false_eq_true, if_false] at hG
   rw [hG.done]
   repeat' (first|refine zck ?_|refine zcp (by kernel_rfl) ?_|(refine zap rfl ?_;first|refine zdw rfl rfl (by omega) ?_|refine zau rfl rfl (by omega) ?_|refine zdu rfl rfl ?_|refine zan rfl ?_)|refine zch ?_)
   refine zec [0] rfl ?_
   exact zei rfl ⟨rfl, rfl⟩
 have hE : a.2 = true := by simpa using hE
 simp only [hE, if_true] at hG
 repeat' (first|refine zck ?_|refine zcp (by kernel_rfl) ?_|refine zcq PP_mixed (by kernel_rfl) (by kernel_rfl) ?_|refine zcm ?_|refine zcl ?_|refine zcn ?_|refine zco ?_|(refine zap rfl ?_;first|refine zdw rfl rfl (by omega) ?_|refine zau rfl rfl (by omega) ?_|refine zdu rfl rfl ?_|refine zan rfl ?_|refine zan rfl ?_|refine zaa 0 rfl rfl rfl ?_|refine zaa 1 rfl rfl rfl ?_|refine zdk [0] hG (getG w0 p _) rfl rfl rfl zdj (fun u s hG => ?_)|refine zdl [0] hG (F.all_place r.1.2) (foPlace w0 p F hF r.1.2 hr.2) rfl rfl rfl zdj (fun b s hb hG => ?_)|refine zan rfl ?_|refine zbg rfl rfl (by omega) ?_|refine zbx rfl ?_|refine zae 1 rfl rfl rfl rfl rfl rfl rfl ?_|refine zae 2 rfl rfl rfl rfl rfl rfl rfl ?_|refine zat rfl rfl (by omega) ?_)|refine zch ?_|refine zci rfl ?_)
 refine zee rfl (fun hE => ?_) (fun hE => ?_)
 · have hE : b.2 = false := by simpa using hE
   simp only [hE, Bool.false_eq_true, if_false] at hG
   rw [hG.done]
   repeat' (first|refine zck ?_|refine zcp (by kernel_rfl) ?_|(refine zap rfl ?_;first|refine zdw rfl rfl (by omega) ?_|refine zau rfl rfl (by omega) ?_|refine zdu rfl rfl ?_|refine zan rfl ?_)|refine zch ?_)
   refine zec [0] rfl ?_
   exact zei rfl ⟨rfl, rfl⟩
 have hE : b.2 = true := by simpa using hE
 simp only [hE, if_true] at hG
 repeat (first|refine zck ?_|refine zcl ?_|refine zcm ?_|refine zcn ?_|refine zco ?_)
 refine zyr ?_
 repeat' (refine zap rfl ?_;first|refine zdw rfl rfl (by omega) ?_|refine zau rfl rfl (by omega) ?_|refine zdu rfl rfl ?_|refine zan rfl ?_|refine zdk [0] hG (getG w0 p _) rfl rfl rfl zdj (fun v s hG => ?_)|refine zae 1 rfl rfl rfl rfl rfl rfl rfl ?_|refine zae 2 rfl rfl rfl rfl rfl rfl rfl ?_|refine zat rfl rfl (by omega) ?_)
 all_goals refine zch ?_
 all_goals repeat (refine zck ?_)
 refine zyr ?_
 repeat' (refine zap rfl ?_;first|refine zdw rfl rfl (by omega) ?_|refine zau rfl rfl (by omega) ?_|refine zdu rfl rfl ?_|refine zan rfl ?_)
 all_goals refine zch ?_
 all_goals repeat (refine zck ?_)
 refine zco ?_
 repeat (first|refine zck ?_|refine zcl ?_|refine zcm ?_|refine zcn ?_|refine zco ?_)
 refine zyr ?_
 repeat' (refine zap rfl ?_;first|refine zdw rfl rfl (by omega) ?_|refine zau rfl rfl (by omega) ?_|refine zdu rfl rfl ?_|refine zbq rfl rfl ?_)
 all_goals refine zyn ?_
 refine zcj rfl ?_
 refine zcs rfl ?_
 refine zyr ?_
 repeat' (refine zap rfl ?_;first|refine zdw rfl rfl (by omega) ?_|refine zau rfl rfl (by omega) ?_|refine zdu rfl rfl ?_|refine zan rfl ?_)
 all_goals refine zch ?_
 all_goals repeat (refine zck ?_)
 refine zeb [1] rfl ?_
 refine zeb [1] rfl ?_
 refine run_slots [(1, spP p), (4, .pointer (some ⟨_, 0, none⟩)), (10, .pointer (some ⟨_, 0, none⟩)), (12, .pointer (some ⟨_, 0, none⟩)), (13, .pointer (some ⟨_, 0, none⟩)), (17, .int .i64 0)] ⟨rfl, rfl, rfl, rfl, rfl, rfl, trivial⟩ (fun junk => ?_)
 simp only [Fo.hang, Pg.bind_assoc, Pg.pure_bind] at hG
 by_cases hc1 : v < u
 · rw [if_pos (.inl hc1)] at hG
   repeat' (first|refine zck ?_|refine zcp (by kernel_rfl) ?_|refine zcq PP_mixed (by kernel_rfl) (by kernel_rfl) ?_|(refine zap rfl ?_;first|refine zdu (t := 2) rfl rfl ?_|refine zdw rfl rfl (by omega) ?_|refine zau rfl rfl (by omega) ?_|refine zdu rfl rfl ?_|refine zak rfl ?_|refine zal rfl ?_|refine zan rfl ?_|refine zan rfl ?_|refine zaa 0 rfl rfl rfl ?_|refine zaa 1 rfl rfl rfl ?_|refine zaa 2 rfl rfl rfl ?_|refine zaa 3 rfl rfl rfl ?_|refine zdk [0] hG (getG w0 p _) rfl rfl rfl zdj (fun u s hG => ?_)|refine zdk [0] hG (putG w0 p _ _) rfl rfl rfl zdj (fun u s hG => ?_)|refine zdk [0] hG (foAdd w0 p _ _) rfl rfl rfl zdj (fun u s hG => ?_)|refine zao rfl ?_|refine zbg rfl rfl (by omega) ?_|refine zav rfl rfl (by omega) ?_|refine zbu rfl ?_|refine zat rfl rfl (by omega) ?_)|refine zch ?_|refine zci rfl ?_)
   rw [hG.done]
   exact zei rfl ⟨rfl, rfl⟩
 by_cases hc2 : v = u
 · by_cases hc3 : r.1.1 < r.1.2
   · rw [if_pos (.inr ⟨hc2, hc3⟩)] at hG
     repeat' (first|refine zck ?_|refine zcp (by kernel_rfl) ?_|refine zcq PP_mixed (by kernel_rfl) (by kernel_rfl) ?_|(refine zap rfl ?_;first|refine zdu (t := 2) rfl rfl ?_|refine zdw rfl rfl (by omega) ?_|refine zau rfl rfl (by omega) ?_|refine zdu rfl rfl ?_|refine zaj rfl ?_|refine zan rfl ?_|refine zan rfl ?_|refine zaa 0 rfl rfl rfl ?_|refine zaa 1 rfl rfl rfl ?_|refine zaa 2 rfl rfl rfl ?_|refine zaa 3 rfl rfl rfl ?_|refine zdk [0] hG (getG w0 p _) rfl rfl rfl zdj (fun u s hG => ?_)|refine zdk [0] hG (putG w0 p _ _) rfl rfl rfl zdj (fun u s hG => ?_)|refine zdk [0] hG (foAdd w0 p _ _) rfl rfl rfl zdj (fun u s hG => ?_)|refine zao rfl ?_|refine zbc rfl rfl (by omega) ?_|refine zbh rfl rfl (by omega) ?_|refine zbk rfl rfl (by omega) ?_|refine zav rfl rfl (by omega) ?_|refine zbu rfl ?_|refine zbv rfl ?_|refine zat rfl rfl (by omega) ?_)|refine zch ?_|refine zci rfl ?_)
     rw [hG.done]
     exact zei rfl ⟨rfl, rfl⟩
   · rw [if_neg (by omega)] at hG
     repeat' (first|refine zck ?_|refine zcp (by kernel_rfl) ?_|refine zcq PP_mixed (by kernel_rfl) (by kernel_rfl) ?_|refine zcm ?_|(refine zap rfl ?_;first|refine zdu (t := 2) rfl rfl ?_|refine zdw rfl rfl (by omega) ?_|refine zau rfl rfl (by omega) ?_|refine zdu rfl rfl ?_|refine zaj rfl ?_|refine zan rfl ?_|refine zan rfl ?_|refine zaa 0 rfl rfl rfl ?_|refine zaa 1 rfl rfl rfl ?_|refine zaa 2 rfl rfl rfl ?_|refine zaa 3 rfl rfl rfl ?_|refine zdk [0] hG (getG w0 p _) rfl rfl rfl zdj (fun u s hG => ?_)|refine zdk [0] hG (putG w0 p _ _) rfl rfl rfl zdj (fun u s hG => ?_)|refine zdk [0] hG (foAdd w0 p _ _) rfl rfl rfl zdj (fun u s hG => ?_)|refine zao rfl ?_|refine zbc rfl rfl (by omega) ?_|refine zbh rfl rfl (by omega) ?_|refine zbl rfl rfl (by omega) ?_|refine zav rfl rfl (by omega) ?_|refine zbu rfl ?_|refine zbv rfl ?_|refine zat rfl rfl (by omega) ?_)|refine zch ?_|refine zcj rfl ?_)
     rw [hG.done]
     exact zei rfl ⟨rfl, rfl⟩
 · rw [if_neg (by omega)] at hG
   repeat' (first|refine zck ?_|refine zcp (by kernel_rfl) ?_|refine zcq PP_mixed (by kernel_rfl) (by kernel_rfl) ?_|refine zcm ?_|(refine zap rfl ?_;first|refine zdu (t := 2) rfl rfl ?_|refine zdw rfl rfl (by omega) ?_|refine zau rfl rfl (by omega) ?_|refine zdu rfl rfl ?_|refine zaj rfl ?_|refine zak rfl ?_|refine zan rfl ?_|refine zan rfl ?_|refine zaa 0 rfl rfl rfl ?_|refine zaa 1 rfl rfl rfl ?_|refine zaa 2 rfl rfl rfl ?_|refine zaa 3 rfl rfl rfl ?_|refine zdk [0] hG (getG w0 p _) rfl rfl rfl zdj (fun u s hG => ?_)|refine zdk [0] hG (putG w0 p _ _) rfl rfl rfl zdj (fun u s hG => ?_)|refine zdk [0] hG (foAdd w0 p _ _) rfl rfl rfl zdj (fun u s hG => ?_)|refine zao rfl ?_|refine zbd rfl rfl (by omega) ?_|refine zbh rfl rfl (by omega) ?_|refine zav rfl rfl (by omega) ?_|refine zbv rfl ?_|refine zat rfl rfl (by omega) ?_)|refine zch ?_|refine zcj rfl ?_)
   rw [hG.done]
   exact zei rfl ⟨rfl, rfl⟩
theorem foUndo (p : Nat) (F : Fo) (hF : F.Ok) : FnG w0 [] 99 [foV F, spP p] p F.undo encBI := by
 obtain ⟨_, h1, h2⟩ := id hF
 intro s hS; have hG := At.start hS; generalize Pg.run _ s = R at hG ⊢
 refine zep en99 fn99 rfl rfl rfl ?_
 refine zyr ?_
 repeat' first|(refine zap rfl ?_;first|refine zdw rfl rfl (by omega) ?_|refine zau rfl rfl (by omega) ?_|refine zdu rfl rfl ?_|refine zaq (cs := [_, _, _, _]) rfl (fun nb => ?_))|refine zp ?_|refine zyn ?_
 refine zeb [1] rfl ?_
 repeat' first|refine zck ?_|refine zyq ?_|(refine zap rfl ?_;first|refine zdw rfl rfl (by omega) ?_|refine zau rfl rfl (by omega) ?_|refine zdu rfl rfl ?_|refine zdk [0] hG (getG w0 p _) rfl rfl rfl zdj (fun last s hG => ?_)|refine zbo rfl rfl ?_)|refine zp ?_|refine zyl 0 rfl ?_|refine zyf rfl ?_|refine zch ?_
 refine zed rfl (fun hE => ?_) (fun hE => ?_)
 · rw [if_pos hE] at hG
   rw [hG.done]
   repeat' first|refine zck ?_|refine zyq ?_|(refine zap rfl ?_;first|refine zdw rfl rfl (by omega) ?_|refine zau rfl rfl (by omega) ?_|refine zdu rfl rfl ?_)|refine zp ?_|refine zch ?_
   exact zei rfl ⟨rfl, rfl⟩
 rw [if_neg hE] at hG
 refine zyr ?_
 repeat' first|(refine zap rfl ?_;first|refine zdw rfl rfl (by omega) ?_|refine zau rfl rfl (by omega) ?_|refine zdu rfl rfl ?_|refine zdl [0] hG F.all_many (foMany w0 p F hF) rfl rfl rfl zdj (fun n s hn hG => ?_))|refine zp ?_|refine zyl 0 rfl ?_|refine zyn ?_
 by_cases hc : n.2 = true ∧ 1 ≤ last ∧ last ≤ n.1
 · rw [if_pos hc] at hG
   obtain ⟨hc1, hc2, hc3⟩ := hc
   have hn := hn hc1
   obtain ⟨n1, n2⟩ := n
   dsimp only at hc1 hc3 hn hG
   subst hc1
   repeat' first|refine zck ?_|refine zcm ?_|refine zyq ?_|(refine zap rfl ?_;first|refine zbx rfl ?_|refine zdw rfl rfl (by omega) ?_|refine zau rfl rfl (by omega) ?_|refine zdu rfl rfl ?_|refine zaj rfl ?_|refine zdl [0] hG (F.all_place last) (foPlace w0 p F hF last ⟨hc2, by omega⟩) rfl rfl rfl zdj (fun a s ha hG => ?_)|refine zbh rfl rfl (by omega) ?_|refine zbl rfl rfl (by omega) ?_|refine zbv rfl ?_)|refine zp ?_|refine zyl 0 rfl ?_|refine zch ?_|refine zcj rfl ?_
   refine zee rfl (fun hE => ?_) (fun hE => ?_)
   · have hE : a.2 = false := by simpa using hE
     simp only [hE, Bool.false_eq_true, if_false] at hG
     rw [hG.done]
     repeat' first|refine zck ?_|refine zyq ?_|(refine zap rfl ?_;first|refine zdw rfl rfl (by omega) ?_|refine zau rfl rfl (by omega) ?_|refine zdu rfl rfl ?_)|refine zp ?_|refine zch ?_
     exact zei rfl ⟨rfl, rfl⟩
   have hE : a.2 = true := by simpa using hE
   simp only [hE, if_true] at hG
   refine zyr ?_
   repeat' first|(refine zap rfl ?_;first|refine zdw rfl rfl (by omega) ?_|refine zau rfl rfl (by omega) ?_|refine zdu rfl rfl ?_|refine zdk [0] hG (getG w0 p _) rfl rfl rfl zdj (fun up s hG => ?_))|refine zp ?_|refine zyn ?_
   by_cases hc : up < 1 ∨ n1 < up
   · rw [if_pos hc] at hG
     rw [hG.done]
     by_cases hc4 : up < 1
     · repeat' first|refine zck ?_|refine zyq ?_|(refine zap rfl ?_;first|refine zdw rfl rfl (by omega) ?_|refine zau rfl rfl (by omega) ?_|refine zdu rfl rfl ?_|refine zak rfl ?_|refine zbg rfl rfl (by omega) ?_|refine zbu rfl ?_)|refine zp ?_|refine zch ?_|refine zci rfl ?_
       exact zei rfl ⟨rfl, rfl⟩
     · repeat' first|refine zck ?_|refine zyq ?_|(refine zap rfl ?_;first|refine zdw rfl rfl (by omega) ?_|refine zau rfl rfl (by omega) ?_|refine zdu rfl rfl ?_|refine zaj rfl ?_|refine zbh rfl rfl (by omega) ?_|refine zbk rfl rfl (by omega) ?_|refine zbv rfl ?_)|refine zp ?_|refine zch ?_|refine zci rfl ?_
       exact zei rfl ⟨rfl, rfl⟩
   rw [if_neg hc] at hG
   repeat' first|refine zck ?_|refine zcm ?_|refine zyq ?_|(refine zap rfl ?_;first|refine zdw rfl rfl (by omega) ?_|refine zau rfl rfl (by omega) ?_|refine zdu rfl rfl ?_|refine zaj rfl ?_|refine zdl [0] hG (F.all_place up) (foPlace w0 p F hF up ⟨by omega, by omega⟩) rfl rfl rfl zdj (fun b s hb hG => ?_)|refine zbh rfl rfl (by omega) ?_|refine zbl rfl rfl (by omega) ?_|refine zbx rfl ?_|refine zbv rfl ?_)|refine zp ?_|refine zyl 0 rfl ?_|refine zch ?_|refine zcj rfl ?_
   refine zee rfl (fun hE => ?_) (fun hE => ?_)
   · have hE : b.2 = false := by simpa using hE
     simp only [hE, Bool.false_eq_true, if_false] at hG
     rw [hG.done]
     repeat' first|refine zck ?_|refine zyq ?_|(refine zap rfl ?_;first|refine zdw rfl rfl (by omega) ?_|refine zau rfl rfl (by omega) ?_|refine zdu rfl rfl ?_)|refine zp ?_|refine zch ?_
     exact zei rfl ⟨rfl, rfl⟩
   have hE : b.2 = true := by simpa using hE
   simp only [hE, if_true] at hG
   repeat (first|refine zck ?_|refine zcl ?_|refine zcm ?_|refine zcn ?_|refine zco ?_)
   refine run_slots [(1, spP p), (2, .pointer (some ⟨_, 0, none⟩)), (9, .int .i64 a.1), (11, .int .i64 b.1)] ⟨rfl, rfl, rfl, rfl, trivial⟩ (fun junk => ?_)
   repeat' first|refine zck ?_|refine zyq ?_|(refine zap rfl ?_;first|refine reg_neg (t := 2) rfl ?_|refine zdw rfl rfl (by omega) ?_|refine zau rfl rfl (by omega) ?_|refine zdu rfl rfl ?_|refine zdk [0] hG (getG w0 p _) rfl rfl rfl zdj (fun u s hG => ?_)|refine zdk [0] hG (putG w0 p _ _) rfl rfl rfl zdj (fun u s hG => ?_)|refine zdk [0] hG (foAdd w0 p _ _) rfl rfl rfl zdj (fun u s hG => ?_))|refine zp ?_|refine zyl 0 rfl ?_|refine zyf rfl ?_|refine zch ?_
   rw [hG.done]
   exact zei rfl ⟨rfl, rfl⟩
 · rw [if_neg hc] at hG
   rw [hG.done]
   obtain ⟨n1, n2⟩ := n
   dsimp only at hc hn
   cases n2 with
   | false =>
     repeat' first|refine zck ?_|refine zyq ?_|(refine zap rfl ?_;first|refine zbx rfl ?_|refine zdw rfl rfl (by omega) ?_|refine zau rfl rfl (by omega) ?_|refine zdu rfl rfl ?_|refine zak rfl ?_|refine zbu rfl ?_)|refine zp ?_|refine zch ?_|refine zci rfl ?_
     exact zei rfl ⟨rfl, rfl⟩
   | true =>
     have hc : ¬ (1 ≤ last ∧ last ≤ n1) := fun h => hc ⟨rfl, h⟩
     by_cases hc4 : last < 1
     · repeat' first|refine zck ?_|refine zyq ?_|(refine zap rfl ?_;first|refine zbx rfl ?_|refine zdw rfl rfl (by omega) ?_|refine zau rfl rfl (by omega) ?_|refine zdu rfl rfl ?_|refine zaj rfl ?_|refine zak rfl ?_|refine zbg rfl rfl (by omega) ?_|refine zbu rfl ?_|refine zbv rfl ?_)|refine zp ?_|refine zch ?_|refine zci rfl ?_
       exact zei rfl ⟨rfl, rfl⟩
     · repeat' first|refine zck ?_|refine zyq ?_|(refine zap rfl ?_;first|refine zbx rfl ?_|refine zdw rfl rfl (by omega) ?_|refine zau rfl rfl (by omega) ?_|refine zdu rfl rfl ?_|refine zaj rfl ?_|refine zbh rfl rfl (by omega) ?_|refine zbk rfl rfl (by omega) ?_|refine zbv rfl ?_)|refine zp ?_|refine zch ?_|refine zci rfl ?_
       exact zei rfl ⟨rfl, rfl⟩
theorem foRoom (p : Nat) (F : Fo) (hF : F.Ok) (x : Int) (hx : 1 ≤ x ∧ x ≤ 64) : FnG w0 [] 188 [foV F, spP p, .int .i64 x] p (F.room x) (.int .i64) := by
 obtain ⟨_, h1, h2⟩ := id hF
 intro s hS; have hG := At.start hS; generalize Pg.run _ s = R at hG ⊢
 refine zep en188 fn188 rfl rfl rfl ?_
 refine zyr ?_
 repeat' first|(refine zap rfl ?_;first|refine zdw rfl rfl (by omega) ?_|refine zau rfl rfl (by omega) ?_|refine zdu rfl rfl ?_|refine zaq (cs := [_, _, _, _]) rfl (fun nb => ?_))|refine zp ?_|refine zyn ?_
 refine zeb [1] rfl ?_
 by_cases c1 : (x - 1) % 2 ≠ 0
 · rw [Fo.room, if_pos c1] at hG
   rw [hG.done]
   repeat' first|refine zck ?_|refine zyq ?_|(refine zap rfl ?_;first|refine zdw rfl rfl (by omega) ?_|refine zau rfl rfl (by omega) ?_|refine zdu rfl rfl ?_|refine zbe rfl rfl (by omega) ?_|refine zav rfl rfl (by omega) ?_|refine zax rfl rfl (by omega) ?_|refine zay rfl rfl (by omega) ?_)|refine zp ?_|refine zch ?_|refine zci rfl ?_
   exact zej rfl ⟨rfl, rfl⟩
 rw [Fo.room, if_neg c1] at hG
 refine zyr ?_
 repeat' first|(refine zap rfl ?_;first|refine zdw rfl rfl (by omega) ?_|refine zau rfl rfl (by omega) ?_|refine zdu rfl rfl ?_|refine zav rfl rfl (by omega) ?_|refine zax rfl rfl (by omega) ?_)|refine zp ?_|refine zyn ?_
 refine zyr ?_
 repeat' first|(refine zap rfl ?_;first|refine zdw rfl rfl (by omega) ?_|refine zau rfl rfl (by omega) ?_|refine zdu rfl rfl ?_|refine zbf rfl rfl (by omega) ?_|refine zav rfl rfl (by omega) ?_|refine zay rfl rfl (by omega) ?_)|refine zp ?_|refine zyn ?_
 refine zcj rfl ?_
 refine zyr ?_
 repeat' first|(refine zap rfl ?_;first|refine zdw rfl rfl (by omega) ?_|refine zau rfl rfl (by omega) ?_|refine zdu rfl rfl ?_|refine zbo rfl rfl ?_|refine zay rfl rfl (by omega) ?_)|refine zp ?_|refine zyn ?_
 refine run_bind_eq2 (σ := { s : Sp // At R (F.roomN x) s }) (l' := fun _ => [(1, spP p), (2, .int .i64 x), (3, .pointer (some ⟨nb, 0, none⟩))]) (Γ' := fun st => [SpaceA p st.1]) ?_ (fun ⟨s, hG⟩ junk => ?_)
 · refine zed rfl (fun c2 => ?_) (fun c2 => ?_)
   · rw [if_pos c2] at hG
     repeat' first|refine zck ?_|refine zyq ?_|(refine zap rfl ?_;first|refine zdw rfl rfl (by omega) ?_|refine zau rfl rfl (by omega) ?_|refine zdu rfl rfl ?_|refine zdk [0] hG (foTake w0 p F hF) rfl rfl rfl zdj (fun t s hG => ?_)|refine zbp rfl rfl ?_)|refine zp ?_|refine zyl 0 rfl ?_|refine zch ?_
     refine zed rfl (fun hE => ?_) (fun hE => ?_)
     · rw [if_pos hE] at hG
       rw [hG.done]
       repeat' first|refine zck ?_|refine zyq ?_|(refine zap rfl ?_;first|refine zdw rfl rfl (by omega) ?_|refine zau rfl rfl (by omega) ?_|refine zdu rfl rfl ?_)|refine zp ?_|refine zch ?_
       exact qret1 (fun _ _ h => h) rfl ⟨rfl, rfl⟩
     rw [if_neg hE] at hG
     repeat' first|refine zcm ?_|refine zyq ?_|(refine zap rfl ?_;first|refine zdw rfl rfl (by omega) ?_|refine zau rfl rfl (by omega) ?_|refine zdu rfl rfl ?_|refine zdk [0] hG (putG w0 p _ _) rfl rfl rfl zdj (fun u s hG => ?_)|refine zax rfl rfl (by omega) ?_)|refine zp ?_|refine zyl 0 rfl ?_|refine zyf rfl ?_|refine zch ?_
     exact zeq ⟨rfl, ⟨_, hG⟩, ⟨rfl, rfl, rfl, trivial⟩, rfl⟩
   · rw [if_neg c2] at hG
     repeat' first|refine zcm ?_|(refine zap rfl ?_;first|refine zdw rfl rfl (by omega) ?_|refine zau rfl rfl (by omega) ?_|refine zdu rfl rfl ?_)|refine zp ?_|refine zch ?_
     exact zeq ⟨rfl, ⟨_, hG⟩, ⟨rfl, rfl, rfl, trivial⟩, rfl⟩
 dsimp only
 unfold Fo.roomN at hG
 repeat' first|refine zck ?_|refine zyq ?_|(refine zap rfl ?_;first|refine zdw rfl rfl (by omega) ?_|refine zau rfl rfl (by omega) ?_|refine zdu rfl rfl ?_|refine zdl [0] hG (F.all_cell x) (foCell w0 p F hF x (by omega)) rfl rfl rfl zdj (fun c s hb hG => ?_)|refine zbx rfl ?_)|refine zp ?_|refine zyl 0 rfl ?_|refine zch ?_
 refine zee rfl (fun hE => ?_) (fun hE => ?_)
 · have hE : c.2 = false := by simpa using hE
   simp only [hE, Bool.false_eq_true, if_false] at hG
   rw [hG.done]
   repeat' first|refine zck ?_|refine zyq ?_|(refine zap rfl ?_;first|refine zdw rfl rfl (by omega) ?_|refine zau rfl rfl (by omega) ?_|refine zdu rfl rfl ?_)|refine zp ?_|refine zch ?_
   exact zej rfl ⟨rfl, rfl⟩
 have hE : c.2 = true := by simpa using hE
 simp only [hE, if_true] at hG
 repeat' first|refine zck ?_|refine zcm ?_|refine zyq ?_|(refine zap rfl ?_;first|refine zdw rfl rfl (by omega) ?_|refine zau rfl rfl (by omega) ?_|refine zdu rfl rfl ?_|refine zdk [0] hG (foTake w0 p F hF) rfl rfl rfl zdj (fun t s hG => ?_)|refine zbp rfl rfl ?_)|refine zp ?_|refine zyl 0 rfl ?_|refine zch ?_
 refine zed rfl (fun hE => ?_) (fun hE => ?_)
 · rw [if_pos hE] at hG
   rw [hG.done]
   repeat' first|refine zck ?_|refine zyq ?_|(refine zap rfl ?_;first|refine zdw rfl rfl (by omega) ?_|refine zau rfl rfl (by omega) ?_|refine zdu rfl rfl ?_)|refine zp ?_|refine zch ?_
   exact zej rfl ⟨rfl, rfl⟩
 rw [if_neg hE] at hG
 repeat' first|refine zck ?_|refine zcm ?_|refine zyq ?_|(refine zap rfl ?_;first|refine zdw rfl rfl (by omega) ?_|refine zau rfl rfl (by omega) ?_|refine zdu rfl rfl ?_|refine zdk [0] hG (putG w0 p _ _) rfl rfl rfl zdj (fun u s hG => ?_))|refine zp ?_|refine zch ?_
 rw [hG.done]
 exact zej rfl ⟨rfl, rfl⟩
end Go.Proofs.YtgdhcgnmffgkiaaGreatDoor
