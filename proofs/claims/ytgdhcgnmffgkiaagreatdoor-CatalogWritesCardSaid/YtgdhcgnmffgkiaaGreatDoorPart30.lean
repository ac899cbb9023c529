import Derived.Test.YtgdhcgnmffgkiaaGreatDoorPart29
import Derived.Test.YtgdhcgnmffgkiaaGreatDoorPart2
import Derived.Test.YtgdhcgnmffgkiaaGreatDoorPart13
/- Own work: lemmas of this claim. -/
namespace Go.Proofs.YtgdhcgnmffgkiaaGreatDoor
variable (w0 : World)
open Go.Vc Sim
set_option maxHeartbeats 4000000
set_option maxRecDepth 20000
theorem catalogWrites_spec (hw : PowOk w0) (sh : Shared) (l : List CallY) (a : Option Addr) (c : Nat) (hl : RdSl w0 sh encCy 7 (.slice a l.length c) l) (hok : ∀ x ∈ l, x.Ok) (X : CallY) (hX : X.Ok) :
   FnE PP w0 sh 5 [.slice a l.length c, callV X.kd X.me X.two X.A X.B X.C X.fr] [] (.bool true) [] := by
 obtain ⟨⟨hk0, hk1⟩, ⟨hm0, hm1⟩, ⟨hf0, hf1⟩, hXA, hXB, hXC⟩ := hX
 have haw := awake_spec w0
 refine zep en5 fn5 rfl rfl rfl ?_
 refine zyr ?_
 repeat' first|(refine zap rfl ?_;refine zaq (cs := [_, _, _, _, _, _, _]) rfl (fun tb => ?_))|refine zp ?_|refine zyn ?_
 refine zeb [0] rfl ?_
 refine zyr ?_
 repeat' (refine zap rfl ?_;first|refine zbx rfl ?_|refine zah [] haw rfl rfl rfl zdj rfl ?_)
 all_goals refine zyn ?_
 refine zcj rfl ?_
 by_cases h40 : 40 < l.length
 · repeat' first|refine zck ?_|refine zcm ?_|refine zyq ?_|(refine zap rfl ?_;first|refine zce rfl ?_|refine zbk rfl rfl (by omega) ?_)|refine zp ?_|refine zch ?_|refine zci rfl ?_
   exact zej rfl ⟨rfl, rfl⟩
 have hbe := behind_spec w0 hw sh l a c hl hok (by omega)
 refine zyr ?_
 repeat' first|(refine zap rfl ?_;first|refine zce rfl ?_|refine zbl rfl rfl (by omega) ?_)|refine zp ?_|refine zyn ?_
 refine zcj rfl ?_
 repeat (first|refine zck ?_|refine zcl ?_|refine zcm ?_|refine zcn ?_|refine zco ?_)
 refine zyr ?_
 repeat' first|(refine zap rfl ?_;refine zai [] hbe rfl rfl rfl (fun p hp => .tail _ hp) (fun | _, _, ⟨p, s, told, a2, c2, rfl, rfl, he, hto, hp, ht⟩ => ?_))|refine zp ?_|refine zyn ?_
 obtain ⟨k, hk⟩ : ∃ k : Nat, X.kd.tmod 10 = (k : Int) := ⟨(X.kd.tmod 10).toNat, by rw [Int.tmod_eq_emod_of_nonneg hk0]; omega⟩
 have hk10 : k < 10 := by rw [Int.tmod_eq_emod_of_nonneg hk0] at hk; omega
 have hpos := ctMeths_pos k hk10
 have hmr := methodsX_spec w0 (k : Int)
 have hro := root_spec w0 (k : Int) X.two (by omega)
 have hpl := zez w0
 refine zyr ?_
 repeat' first|(refine zap rfl ?_;first|refine reg_remE rfl rfl (by decide) hk ?_|refine zbz rfl (by omega) ?_)|refine zp ?_|refine zyl 0 rfl ?_|refine zyf rfl ?_|refine zyn ?_
 refine zyr ?_
 repeat' first|(refine zap rfl ?_;refine zai [] hmr rfl rfl rfl zdj (fun | _, _, ⟨am, cm, rfl, rfl⟩ => ?_))|refine zp ?_|refine zyn ?_
 refine zeu [0] rfl ?_
 intro sh' bl hs1 hs2 hR0
 have hR0 := hR0.mono hs2
 have hbx : RdSl w0 sh' encCy 7 (.slice (some ⟨tb, 0, none⟩) 1 1) [X] := RdSl.flat (l := [X]) (fun x hx => by rw [List.mem_singleton.1 hx]; rfl) (hs1 _ (.head _))
 obtain ⟨bX, offX, cX, TX, frX, hbX, x2, x3, x4⟩ := hbx.cells (i := 0) (x := X) rfl
 cases hbX
 have hlen : (ctMeths (k : Int)).length ≤ 10 := by
   have h := msK_len (k : Int)
   rw [← msK_rows (k : Int), List.length_map]
   exact h
 generalize hL : (ctMeths (k : Int)).length = L at hpos hlen hR0
 obtain ⟨j, hj⟩ : ∃ j : Nat, X.me.tmod (L : Int) = (j : Int) := ⟨(X.me.tmod (L : Int)).toNat, by rw [Int.tmod_eq_emod_of_nonneg hm0]; have := Int.emod_nonneg X.me (show (L : Int) ≠ 0 by omega); omega⟩
 have hjL : j < L := by rw [Int.tmod_eq_emod_of_nonneg hm0] at hj; have := Int.emod_lt_of_pos X.me (show (0 : Int) < L by omega); omega
 obtain ⟨m, hm⟩ : ∃ m, (ctMeths (k : Int))[j]? = some m := ⟨_, List.getElem?_eq_getElem (by omega)⟩
 obtain ⟨b', off', cc', T', fr', rfl, g2, g3, _⟩ := hR0.cells hm
 obtain ⟨st, hst⟩ := mws_all w0 hw (k : Int) (by omega) (rootA (k : Int) X.two) (rootA_bdW (by omega) X.two) j m hm
 have hna : 0 ≤ m.2.1 ∧ m.2.1 ≤ 3 := by
   have h := List.all_eq_true.1 (ct_argsW k hk10) m (List.mem_of_getElem? hm)
   rw [Bool.and_eq_true, decide_eq_true_eq, decide_eq_true_eq] at h
   exact h
 obtain ⟨mn, ma, mw⟩ := m
 dsimp only at hna
 obtain ⟨n, rfl⟩ : ∃ n : Nat, ma = (n : Int) := ⟨ma.toNat, by omega⟩
 repeat (first|refine zck ?_|refine zcl ?_|refine zcm ?_|refine zcn ?_|refine zco ?_)
 refine zyr ?_
 repeat' first|(refine zap rfl ?_;first|refine zce rfl ?_|refine zbd rfl rfl (by omega) ?_)|refine zp ?_|refine zyn ?_
 refine zcj rfl ?_
 repeat (first|refine zck ?_|refine zcl ?_|refine zcm ?_|refine zcn ?_|refine zco ?_)
 refine zyr ?_
 repeat' first|(refine zap rfl ?_;first|refine zad rfl x2 (x4 1 _ rfl _ (by omega)) ?_|refine zad rfl g2 (g3 _ (by omega)) ?_|refine reg_remE rfl rfl (by omega) hj ?_|refine zbz rfl (by omega) ?_|refine zar (fun t9 => ?_)|refine zce rfl ?_|refine zae 2 rfl rfl rfl rfl rfl rfl rfl ?_|refine zas rfl rfl (by omega) ?_)|refine zp ?_|refine zyf rfl ?_|refine zyn ?_
 refine zef 2 (pt t9 (.cells (List.toArray [.string mn, .int .i64 (n : Int), .bool mw]) 57 (0, 0))) rfl (fun g hg => hg) rfl ?_
 refine zeb [2] rfl ?_
 repeat (first|refine zck ?_|refine zcl ?_|refine zcm ?_|refine zcn ?_|refine zco ?_)
 have hmk := mark_spec w0 p s
 refine zyr ?_
 repeat' first|(refine zap rfl ?_;refine zah [0] hmk rfl rfl rfl zdj rfl ?_)|refine zp ?_|refine zyn ?_
 have hA := Fn.lendSl (P := PP) (w0 := w0) (sh := []) (Γ := []) (q := 1) (T := 2) (a := a2) (len := told.length) (cap := c2) (l := told) encI en12 (fun _ _ => rfl) rfl (fun sh1 _ h => args_spec w0 sh1 X.kd X.me X.two X.A X.B X.C X.fr ⟨hf0, hf1⟩ n (by omega) told a2 c2 (by omega) h)
 have hs : Few s := by unfold Few; omega
 have hAL : ((argL X.A X.B X.C X.fr told).take n).length = n := by rw [List.length_take, argL_lenW]; omega
 have hcat : ∀ nb : Nat, _ := fun nb => by
   have hRa : RdSl w0 [(nb, .cells (List.toArray ((argL X.A X.B X.C X.fr told).flatMap encI)) 2 (0, 0))] encI 1 (.slice (some ⟨nb, 0, none⟩) n 3) ((argL X.A X.B X.C X.fr told).take n) := by
     have h := intRd w0 nb (argL X.A X.B X.C X.fr told)
     have h2 := RdSl.pre (q := n) h (by rw [argL_lenW]; omega)
     rw [argL_lenW] at h2
     exact h2
   have h := hst.cat [(nb, .cells (List.toArray ((argL X.A X.B X.C X.fr told).flatMap encI)) 2 (0, 0))] p s ((argL X.A X.B X.C X.fr told).take n) (some ⟨nb, 0, none⟩) 3 hs (by rw [hAL]) (by rw [hAL]; exact hRa)
   rw [hAL] at h
   exact Vc.Fn.owned h
 have hALi : ∀ x ∈ (argL X.A X.B X.C X.fr told).take n, I64 x := fun x hx => argL_i64 hXA hXB hXC hto x (List.mem_of_mem_take hx)
 have hw2 := hst.wr _ _ _ s (getD_i64 hALi 0) (getD_i64 hALi 1) (getD_i64 hALi 2) he
 have hln := hst.len (((argL X.A X.B X.C X.fr told).take n).getD 0 0) (((argL X.A X.B X.C X.fr told).take n).getD 1 0) (((argL X.A X.B X.C X.fr told).take n).getD 2 0) s hs
 generalize st (((argL X.A X.B X.C X.fr told).take n).getD 0 0) (((argL X.A X.B X.C X.fr told).take n).getD 1 0) (((argL X.A X.B X.C X.fr told).take n).getD 2 0) s = R at hcat hw2 hln
 obtain ⟨⟨v, e⟩, s'⟩ := R
 dsimp only at hcat hw2 hln
 refine zyx ?_
 first|refine zcp (by kernel_rfl) ?_|refine zcr [(.quiet, 0), (.loud, 1), (.quiet, 2), (.quiet, 3), (.quiet, 4), (.loud, 5), (.quiet, 6), (.quiet, 7), (.quiet, 8), (.quiet, 9), (.quiet, 10), (.quiet, 11), (.quiet, 12), (.loud, 13), (.loud, 14), (.quiet, 15), (.quiet, 16), (.quiet, 17), (.quiet, 18), (.quiet, 19)] PP_mixed (by kernel_rfl) (by kernel_rfl) ?_|refine zeh PP_mixed (by kernel_rfl) (by kernel_rfl) ?_
 repeat' first|(refine zap rfl ?_;first|refine zad rfl (fun hF Γ w h1 h2 => x2 hF Γ w (fun p hp => h1 p (.tail _ hp)) h2) (x4 2 _ rfl _ (by omega)) ?_|refine zad rfl (fun hF Γ w h1 h2 => x2 hF Γ w (fun p hp => h1 p (.tail _ hp)) h2) (x3 _ (by omega)) ?_|refine zah [] hpl rfl rfl rfl zdj rfl ?_|refine zah [] hro rfl rfl rfl zdj rfl ?_|refine reg_min3 rfl rfl (by omega) ?_|refine zai [1] hA rfl rfl rfl zdj (fun | _, _, ⟨_, ⟨nb, rfl, rfl⟩, rfl⟩ => ?_)|refine zai [0, 1] (hcat nb) rfl rfl rfl zdj (fun | _, _, ⟨_, ⟨rfl, rfl⟩, rfl⟩ => ?_))|refine zp ?_|refine zyl 0 rfl ?_|refine zyf rfl ?_|refine zyn ?_
 repeat (first|refine zck ?_|refine zcl ?_|refine zcm ?_|refine zcn ?_|refine zco ?_)
 have hmk2 := mark_spec w0 p s'
 obtain ⟨_, _, hv0, hsame⟩ := hw2
 by_cases hz : e = 0
 · subst hz
   by_cases hq : s'.puts.length = s.puts.length
   · rw [hq] at hmk2
     repeat' first|refine zck ?_|refine zcm ?_|refine zyq ?_|(refine zap rfl ?_;first|refine zak rfl ?_|refine zal rfl ?_|refine zah [0] hmk2 rfl rfl rfl zdj rfl ?_|refine zbc rfl rfl (by omega) ?_|refine zbf rfl rfl (by omega) ?_|refine zbu rfl ?_|refine zbv rfl ?_)|refine zp ?_|refine zch ?_|refine zcj rfl ?_
     refine zec [] rfl ?_
     exact zej rfl ⟨rfl, rfl⟩
   · cases mw with
     | false => exact absurd (by rw [hsame (.inr rfl)]) hq
     | true =>
       repeat' first|refine zck ?_|refine zcm ?_|refine zyq ?_|(refine zap rfl ?_;first|refine zaj rfl ?_|refine zak rfl ?_|refine zah [0] hmk2 rfl rfl rfl zdj rfl ?_|refine zbc rfl rfl (by omega) ?_|refine zbd rfl rfl (by omega) ?_|refine zbf rfl rfl (by omega) ?_|refine zbu rfl ?_|refine zbv rfl ?_)|refine zp ?_|refine zyl 0 rfl ?_|refine zyf rfl ?_|refine zch ?_|refine zcj rfl ?_
       refine zec [] rfl ?_
       exact zej rfl ⟨rfl, rfl⟩
 · have hv := hv0 hz
   subst hv
   rw [hsame (.inl hz)] at hmk2
   repeat' first|refine zck ?_|refine zcm ?_|refine zyq ?_|(refine zap rfl ?_;first|refine zaj rfl ?_|refine zak rfl ?_|refine zal rfl ?_|refine zah [0] hmk2 rfl rfl rfl zdj rfl ?_|refine zbc rfl rfl (by omega) ?_|refine zbe rfl rfl (by omega) ?_|refine zbf rfl rfl (by omega) ?_|refine zbu rfl ?_)|refine zp ?_|refine zch ?_|refine zcj rfl ?_
   refine zec [] rfl ?_
   exact zej rfl ⟨rfl, rfl⟩
end Go.Proofs.YtgdhcgnmffgkiaaGreatDoor
namespace Go.Proofs.YtgdhcgnmffgkiaaGreatDoor
open Go.Vc Sim Go.ChangeShapes Go.WideShapes Go.RowKit
set_option maxRecDepth 100000
theorem gPow : Tryz.prog.globalNamed nPow = some 0 := by kernel_rfl
theorem tPow : (Tryz.prog.globals[0]?).map (·.type) = some 216 := by kernel_rfl
theorem laid_eq : (Rows.laid_simulcast_array_powers : DataW Unit) = Lib.tabData .i64 [1, 8, 64, 512, 4096] := rfl
theorem pow_ok {W : World} (h : laidMetH Tryz.prog lPow W) : PowOk W := by
 rw [MakeChecks.laidMetH_plain _ _ _ (by kernel_rfl), lPow, laid_eq] at h
 have hT := Lib.tabIs_of_head gPow tPow Tryz.underlying216 Tryz.underlying2 (by kernel_rfl) (by kernel_rfl) h
 unfold Lib.TabIs World.var? at hT
 rw [gPow] at hT
 simp only [Option.bind_some] at hT
 split at hT
 · rename_i cs T fr hc
   cases hT
   exact ⟨T, fr, hc⟩
 · cases hT
theorem wf_i16 {x : Int} (h : (Lit.int .i16 x).wf = true) : -32768 ≤ x ∧ x ≤ 32767 := by
 simp only [Lit.wf, Bool.and_eq_true, decide_eq_true_eq] at h
 exact ⟨h.1, h.2⟩
theorem in_cy {H : Type} {enc : TypeId × Value → H} {w : World} {base : Nat} {spare : Nat → Bool} {held : Bool} {n : Nat} {cs : List Value} {y : DataW H × List MemPlace}
   (h : DataW.trod enc Tryz.prog w base spare held n 29 cs = some y) : ∃ x : CallY, x.Ok ∧ cs = encCy x := by
 obtain ⟨xs, n', _, _, hlen, hxl, hf⟩ := DataW.trod_struct Tryz.underlying29 h
 have c5 : Tryz.prog.cellsOf 5 = 1 := by kernel_rfl
 have cb : Tryz.prog.cellsOf 4 = 1 := by kernel_rfl
 have c2 : Tryz.prog.cellsOf 2 = 1 := by kernel_rfl
 have c6 : Tryz.prog.cellsOf 27 = 1 := by kernel_rfl
 have cT : Tryz.prog.cellsOf 29 = 7 := by kernel_rfl
 rw [cT] at hlen
 have f0 : DataW.trod enc Tryz.prog w base spare held n' 5 ((cs.drop 0).take (Tryz.prog.cellsOf 5)) = xs[0]? := hf 0 _ rfl
 have f1 : DataW.trod enc Tryz.prog w base spare held n' 5 ((cs.drop 1).take (Tryz.prog.cellsOf 5)) = xs[1]? := hf 1 _ rfl
 have f2 : DataW.trod enc Tryz.prog w base spare held n' 4 ((cs.drop 2).take (Tryz.prog.cellsOf 4)) = xs[2]? := hf 2 _ rfl
 have f3 : DataW.trod enc Tryz.prog w base spare held n' 2 ((cs.drop 3).take (Tryz.prog.cellsOf 2)) = xs[3]? := hf 3 _ rfl
 have f4 : DataW.trod enc Tryz.prog w base spare held n' 2 ((cs.drop 4).take (Tryz.prog.cellsOf 2)) = xs[4]? := hf 4 _ rfl
 have f5 : DataW.trod enc Tryz.prog w base spare held n' 2 ((cs.drop 5).take (Tryz.prog.cellsOf 2)) = xs[5]? := hf 5 _ rfl
 have f6 : DataW.trod enc Tryz.prog w base spare held n' 27 ((cs.drop 6).take (Tryz.prog.cellsOf 27)) = xs[6]? := hf 6 _ rfl
 rw [c5] at f0 f1
 rw [cb] at f2
 rw [c2] at f3 f4 f5
 rw [c6] at f6
 match cs, hlen with
 | [a0, a1, a2, a3, a4, a5, a6], _ =>
   match xs, hxl with
   | [y0, y1, y2, y3, y4, y5, y6], _ =>
     obtain ⟨k0, e0, _, w0⟩ := DataW.trod_int Tryz.underlying5 (show DataW.trod _ _ _ _ _ _ n' _ [a0] = some y0 from f0)
     obtain ⟨k1, e1, _, w1⟩ := DataW.trod_int Tryz.underlying5 (show DataW.trod _ _ _ _ _ _ n' _ [a1] = some y1 from f1)
     obtain ⟨k2, e2, _⟩ := DataW.trod_bool Tryz.underlying4 (show DataW.trod _ _ _ _ _ _ n' _ [a2] = some y2 from f2)
     obtain ⟨k3, e3, _, w3⟩ := DataW.trod_int Tryz.underlying2 (show DataW.trod _ _ _ _ _ _ n' _ [a3] = some y3 from f3)
     obtain ⟨k4, e4, _, w4⟩ := DataW.trod_int Tryz.underlying2 (show DataW.trod _ _ _ _ _ _ n' _ [a4] = some y4 from f4)
     obtain ⟨k5, e5, _, w5⟩ := DataW.trod_int Tryz.underlying2 (show DataW.trod _ _ _ _ _ _ n' _ [a5] = some y5 from f5)
     obtain ⟨k6, e6, _, w6⟩ := DataW.trod_int Tryz.underlying27 (show DataW.trod _ _ _ _ _ _ n' _ [a6] = some y6 from f6)
     simp only [List.cons.injEq, and_true] at e0 e1 e2 e3 e4 e5 e6
     subst e0; subst e1; subst e2; subst e3; subst e4; subst e5; subst e6
     exact ⟨⟨k0, k1, k2, k3, k4, k5, k6⟩, ⟨wf_u8 w0, wf_u8 w1, wf_i16 w6, wf_i64 w3, wf_i64 w4, wf_i64 w5⟩, rfl⟩
theorem in_cy1 {H : Type} {enc : TypeId × Value → H} {w : World} {base : Nat} {spare : Nat → Bool} {held : Bool} {r : Reach} {b0 : Nat} {v : Value} {d : DataW H} {ps : List MemPlace}
   (hval : Value.okWide Tryz.prog w r b0 29 v) (h : DataW.Trod enc Tryz.prog w base spare held 29 v d ps) : ∃ x : CallY, v = .agg (List.toArray (encCy x)) ∧ x.Ok := by
 obtain ⟨fuel, hf⟩ := h
 simp only [Value.okWide, Tryz.underlying29] at hval
 obtain ⟨cs, rfl, _⟩ := hval
 obtain ⟨x, hx, hc⟩ := in_cy hf
 refine ⟨x, ?_, hx⟩
 have : cs.toList = encCy x := hc
 rw [← this]
end Go.Proofs.YtgdhcgnmffgkiaaGreatDoor
