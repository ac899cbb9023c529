import Derived.Test.YtgdhcgnmffgkiaaGreatDoorPart2
import Derived.Test.YtgdhcgnmffgkiaaGreatDoorPart3
import Derived.Test.YtgdhcgnmffgkiaaGreatDoorKit
/- Lemmas and walks for the claims of this seat (own work): Do0 Te0 He0 He1 Te1 Te2 Gh0 Gh1 Gh2. -/
namespace Go.Proofs.YtgdhcgnmffgkiaaGreatDoor
open Go.Vc Sim
set_option maxHeartbeats 4000000
abbrev onV (p : Nat) (P : Pl) (a : Int) : Value := .agg (List.toArray [spP p, .int .i64 P.root, .int .i64 P.frm, .int .i64 P.nodes, .int .i64 a])
theorem nothing_spec (w0 : World) (e : Int) : FnE PP w0 [] 199 [.int .i64 e] [] (encI2 (0, e)) [] := by
  refine fn_of_run en199 fn199 rfl rfl rfl ?_
  repeat' (first | refine zck ?_ | refine zcp (by kernel_rfl) ?_ | (refine zap rfl ?_; first | refine zan rfl ?_ | refine zan rfl ?_) | refine zch ?_)
  exact ret_tmp2 rfl ⟨rfl, rfl⟩
theorem plain_spec (w0 : World) (e : Int) : FnE PP w0 [] 195 [.int .i64 e] [] (encI2 (e, 0)) [] := by
  refine fn_of_run en195 fn195 rfl rfl rfl ?_
  repeat' (first | refine zck ?_ | refine zcp (by kernel_rfl) ?_ | (refine zap rfl ?_; first | refine zan rfl ?_ | refine zan rfl ?_) | refine zch ?_)
  exact ret_tmp2 rfl ⟨rfl, rfl⟩
theorem found_spec (w0 : World) (v : Int) (b : Bool) : FnE PP w0 [] 224 [.int .i64 v, .bool b] [] (encI2 (if b = true then (v, 0) else (0, 10))) [] := by
  cases b <;>
  · refine fn_of_run en224 fn224 rfl rfl rfl ?_
    repeat' (first | refine zck ?_ | refine zcp (by kernel_rfl) ?_ | refine zcm ?_ | (refine zap rfl ?_; first | refine zbx rfl ?_ | refine zan rfl ?_ | refine zan rfl ?_) | refine zch ?_ | refine zci rfl ?_ | refine zcj rfl ?_)
    exact ret_tmp2 rfl ⟨rfl, rfl⟩
theorem truth_spec (w0 : World) (b : Bool) : FnE PP w0 [] 226 [.bool b, .int .i64 0] [] (encI2 (if b = true then (1, 0) else (0, 0))) [] := by
  cases b <;>
  · refine fn_of_run en226 fn226 rfl rfl rfl ?_
    repeat' (first | refine zck ?_ | refine zcp (by kernel_rfl) ?_ | refine zcm ?_ | (refine zap rfl ?_; first | refine zbx rfl ?_ | refine zaj rfl ?_ | refine zan rfl ?_ | refine zan rfl ?_ | refine zbf rfl rfl (by omega) ?_ | refine zbv rfl ?_) | refine zch ?_ | refine zci rfl ?_ | refine zcj rfl ?_)
    exact ret_tmp2 rfl ⟨rfl, rfl⟩
theorem onTrie_spec (w0 : World) (p : Nat) (P : Pl) (r : Int) : FnE PP w0 [] 222 [onV p P r] [] (trV ⟨P, r, hsI, fun _ => true⟩) [] := by
  have hMk : ∀ w, (Instr.makeInterface 105 (.agg #[])).run PP w = .ok (.iface 105 (.agg #[])) w := fun w => by kernel_rfl
  refine fn_of_run en222 fn222 rfl rfl rfl ?_
  repeat (first | refine zck ?_ | refine zcl ?_ | refine zcm ?_ | refine zcn ?_)
  first | refine zcp (by kernel_rfl) ?_ | refine zcq PP_mixed (by kernel_rfl) (by kernel_rfl) ?_
  repeat' (refine zap rfl ?_; first | refine zaq (cs := [_, _, _, _, _]) rfl (fun tb => ?_) | refine zar (fun t2 => ?_))
  all_goals refine zch ?_
  all_goals repeat (first | refine zck ?_ | refine zcl ?_ | refine zcm ?_ | refine zcn ?_)
  refine run_share [0] rfl ?_
  repeat' (first | refine zcp (by kernel_rfl) ?_ | (refine zap rfl ?_; first | refine zcb rfl ?_ | refine reg_mkI hMk rfl ?_ | refine zaa 0 rfl rfl rfl ?_ | refine zao rfl ?_ | refine zae 0 rfl rfl rfl rfl rfl rfl rfl ?_) | refine zch ?_)
  exact run_ret (leaves_nil (ends_take [] rfl (ends_one rfl (resOk_pt 0 rfl rfl rfl) ⟨rfl, rfl, rfl⟩)))
theorem qPutG (w0 : World) (sh : Shared) (p : Nat) (P : Pl) (hP : P.Ok) (r x : Int) (l : List Int) (a : Option Addr) (c : Nat) (hl : RdSl w0 sh encI 1 (.slice a l.length c) l) (hx : l[0]? = some x) :
    FnG w0 sh 203 [onV p P r, .slice a l.length c] p (mPut P r x) encI2 := by
  intro s hS
  have hG := At.start hS
  generalize Pg.run _ s = R at hG ⊢
  unfold mPut at hG
  obtain ⟨b, off, cc, T, fr, rfl, e2, _, e4⟩ := hl.cells hx
  have h0 : 0 < l.length := (List.getElem?_eq_some_iff.1 hx).1
  refine fn_of_run en203 fn203 rfl rfl rfl ?_
  repeat (first | refine zck ?_ | refine zcl ?_ | refine zcm ?_ | refine zcn ?_)
  first | refine zcp (by kernel_rfl) ?_ | refine zcq PP_mixed (by kernel_rfl) (by kernel_rfl) ?_
  repeat' (refine zap rfl ?_; first | refine zaq (cs := [_, _, _, _, _]) rfl (fun tb => ?_) | refine zan rfl ?_)
  all_goals refine zch ?_
  all_goals repeat (first | refine zck ?_ | refine zcl ?_ | refine zcm ?_ | refine zcn ?_)
  refine run_share [1] rfl ?_
  repeat (first | refine zck ?_ | refine zcl ?_ | refine zcm ?_ | refine zcn ?_)
  first | refine zcp (by kernel_rfl) ?_ | refine zcq PP_mixed (by kernel_rfl) (by kernel_rfl) ?_
  repeat' (refine zap rfl ?_; first | refine zad rfl (fun hF Γ w h1 h2 => e2 hF Γ w (fun p hp => h1 p (.tail _ hp)) h2) (e4 0 _ rfl _ (by omega)) ?_ | refine zan rfl ?_ | refine zan rfl ?_ | refine zaa 0 rfl rfl rfl ?_ | refine reg_callG [0] hG (quPut w0 p P hP r x) rfl rfl rfl sub_nil (fun e s hG => ?_) | refine zah [] (nothing_spec w0 _) rfl rfl rfl sub_nil rfl ?_ | refine zao rfl ?_ | refine zan rfl ?_ | refine zas rfl rfl (by omega) ?_)
  all_goals refine zch ?_
  all_goals repeat (first | refine zck ?_ | refine zcl ?_ | refine zcm ?_ | refine zcn ?_)
  rw [hG.done]
  exact ret_tmp2 rfl ⟨rfl, rfl⟩
theorem qTakeG (w0 : World) (sh : Shared) (p : Nat) (P : Pl) (hP : P.Ok) (r : Int) (v : Value) : FnG w0 sh 204 [onV p P r, v] p (Qu.take P r) encI2 := by
  intro s hS
  have hG := (At.start hS).to (Pg.bind_pure _).symm
  generalize Pg.run _ s = R at hG ⊢
  refine fn_of_run en204 fn204 rfl rfl rfl ?_
  repeat (first | refine zck ?_ | refine zcl ?_ | refine zcm ?_ | refine zcn ?_)
  first | refine zcp (by kernel_rfl) ?_ | refine zcq PP_mixed (by kernel_rfl) (by kernel_rfl) ?_
  repeat' (refine zap rfl ?_; first | refine zaq (cs := [_, _, _, _, _]) rfl (fun tb => ?_) | refine zan rfl ?_)
  all_goals refine zch ?_
  all_goals repeat (first | refine zck ?_ | refine zcl ?_ | refine zcm ?_ | refine zcn ?_)
  refine run_share [1] rfl ?_
  repeat (first | refine zck ?_ | refine zcl ?_ | refine zcm ?_ | refine zcn ?_)
  first | refine zcp (by kernel_rfl) ?_ | refine zcq PP_mixed (by kernel_rfl) (by kernel_rfl) ?_
  repeat' (refine zap rfl ?_; first | refine zan rfl ?_ | refine zaa 0 rfl rfl rfl ?_ | refine reg_callG [0] hG (quTake w0 p P hP r) rfl rfl rfl sub_nil (fun e s hG => ?_) | refine zao rfl ?_ | refine zan rfl ?_)
  all_goals refine zch ?_
  all_goals repeat (first | refine zck ?_ | refine zcl ?_ | refine zcm ?_ | refine zcn ?_)
  rw [hG.done]
  exact ret_tmp2 rfl ⟨rfl, rfl⟩
theorem qFirstG (w0 : World) (sh : Shared) (p : Nat) (P : Pl) (r : Int) (v : Value) : FnG w0 sh 205 [onV p P r, v] p (Qu.first r) encI2 := by
  intro s hS
  have hG := (At.start hS).to (Pg.bind_pure _).symm
  generalize Pg.run _ s = R at hG ⊢
  refine fn_of_run en205 fn205 rfl rfl rfl ?_
  repeat (first | refine zck ?_ | refine zcl ?_ | refine zcm ?_ | refine zcn ?_)
  first | refine zcp (by kernel_rfl) ?_ | refine zcq PP_mixed (by kernel_rfl) (by kernel_rfl) ?_
  repeat' (refine zap rfl ?_; first | refine zaq (cs := [_, _, _, _, _]) rfl (fun tb => ?_) | refine zan rfl ?_)
  all_goals refine zch ?_
  all_goals repeat (first | refine zck ?_ | refine zcl ?_ | refine zcm ?_ | refine zcn ?_)
  refine run_share [1] rfl ?_
  repeat (first | refine zck ?_ | refine zcl ?_ | refine zcm ?_ | refine zcn ?_)
  first | refine zcp (by kernel_rfl) ?_ | refine zcq PP_mixed (by kernel_rfl) (by kernel_rfl) ?_
  repeat' (refine zap rfl ?_; first | refine zan rfl ?_ | refine zaa 0 rfl rfl rfl ?_ | refine reg_callG [0] hG (quFirst w0 p r) rfl rfl rfl sub_nil (fun e s hG => ?_) | refine zao rfl ?_ | refine zan rfl ?_)
  all_goals refine zch ?_
  all_goals repeat (first | refine zck ?_ | refine zcl ?_ | refine zcm ?_ | refine zcn ?_)
  rw [hG.done]
  exact ret_tmp2 rfl ⟨rfl, rfl⟩
theorem qLenG (w0 : World) (sh : Shared) (p : Nat) (P : Pl) (r : Int) (v : Value) : FnG w0 sh 206 [onV p P r, v] p (mLen r) encI2 := by
  intro s hS
  have hG := At.start hS
  generalize Pg.run _ s = R at hG ⊢
  unfold mLen at hG
  refine fn_of_run en206 fn206 rfl rfl rfl ?_
  repeat (first | refine zck ?_ | refine zcl ?_ | refine zcm ?_ | refine zcn ?_)
  first | refine zcp (by kernel_rfl) ?_ | refine zcq PP_mixed (by kernel_rfl) (by kernel_rfl) ?_
  repeat' (refine zap rfl ?_; first | refine zaq (cs := [_, _, _, _, _]) rfl (fun tb => ?_) | refine zan rfl ?_)
  all_goals refine zch ?_
  all_goals repeat (first | refine zck ?_ | refine zcl ?_ | refine zcm ?_ | refine zcn ?_)
  refine run_share [1] rfl ?_
  repeat (first | refine zck ?_ | refine zcl ?_ | refine zcm ?_ | refine zcn ?_)
  first | refine zcp (by kernel_rfl) ?_ | refine zcq PP_mixed (by kernel_rfl) (by kernel_rfl) ?_
  repeat' (refine zap rfl ?_; first | refine zan rfl ?_ | refine zaa 0 rfl rfl rfl ?_ | refine reg_callG [0] hG (quLen w0 p r) rfl rfl rfl sub_nil (fun e s hG => ?_) | refine zah [] (plain_spec w0 _) rfl rfl rfl sub_nil rfl ?_ | refine zao rfl ?_ | refine zan rfl ?_)
  all_goals refine zch ?_
  all_goals repeat (first | refine zck ?_ | refine zcl ?_ | refine zcm ?_ | refine zcn ?_)
  rw [hG.done]
  exact ret_tmp2 rfl ⟨rfl, rfl⟩
theorem tI_of (P : Pl) (r : Int) : (⟨P, r, hsI, fun _ => true⟩ : Tr).IsI := ⟨rfl, fun _ => rfl⟩
theorem tPutG (w0 : World) (sh : Shared) (p : Nat) (P : Pl) (r : Int) (hT : (⟨P, r, hsI, fun _ => true⟩ : Tr).Ok) (x y : Int) (l : List Int) (a : Option Addr) (c : Nat) (hl : RdSl w0 sh encI 1 (.slice a l.length c) l) (hx : l[0]? = some x) (hy : l[1]? = some y) :
    FnG w0 sh 221 [onV p P r, .slice a l.length c] p (mtPut ⟨P, r, hsI, fun _ => true⟩ x y) encI2 := by
  intro s hS
  have hG := At.start hS
  generalize Pg.run _ s = R at hG ⊢
  unfold mtPut at hG
  obtain ⟨b, off, cc, T, fr, rfl, e2, _, e4⟩ := hl.cells hx
  obtain ⟨b', off', cc', T', fr', hb, f2, _, f4⟩ := hl.cells hy
  cases hb
  have h0 : 1 < l.length := (List.getElem?_eq_some_iff.1 hy).1
  refine fn_of_run en221 fn221 rfl rfl rfl ?_
  repeat (first | refine zck ?_ | refine zcl ?_ | refine zcm ?_ | refine zcn ?_)
  first | refine zcp (by kernel_rfl) ?_ | refine zcq PP_mixed (by kernel_rfl) (by kernel_rfl) ?_
  repeat' (refine zap rfl ?_; first | refine zaq (cs := [_, _, _, _, _]) rfl (fun tb => ?_) | refine zan rfl ?_)
  all_goals refine zch ?_
  all_goals repeat (first | refine zck ?_ | refine zcl ?_ | refine zcm ?_ | refine zcn ?_)
  refine run_share [1] rfl ?_
  repeat (first | refine zck ?_ | refine zcl ?_ | refine zcm ?_ | refine zcn ?_)
  first | refine zcp (by kernel_rfl) ?_ | refine zcq PP_mixed (by kernel_rfl) (by kernel_rfl) ?_
  repeat' (refine zap rfl ?_; first | refine zad rfl (fun hF Γ w h1 h2 => e2 hF Γ w (fun p hp => h1 p (.tail _ hp)) h2) (e4 0 _ rfl _ (by omega)) ?_ | refine zad rfl (fun hF Γ w h1 h2 => f2 hF Γ w (fun p hp => h1 p (.tail _ hp)) h2) (f4 0 _ rfl _ (by omega)) ?_ | refine zan rfl ?_ | refine zan rfl ?_ | refine zaa 0 rfl rfl rfl ?_ | refine zah [] (onTrie_spec w0 p P r) rfl rfl rfl sub_nil rfl ?_ | refine reg_callG [0] hG (trPut w0 p _ hT (tI_of P r) x y) rfl rfl rfl sub_nil (fun e s hG => ?_) | refine zao rfl ?_ | refine zan rfl ?_ | refine zas rfl rfl (by omega) ?_)
  all_goals refine zch ?_
  all_goals repeat (first | refine zck ?_ | refine zcl ?_ | refine zcm ?_ | refine zcn ?_)
  repeat' (first | refine zcp (by kernel_rfl) ?_ | (refine zap rfl ?_; first | refine zan rfl ?_ | refine zan rfl ?_) | refine zch ?_)
  rw [hG.done]
  exact ret_tmp2 rfl ⟨rfl, rfl⟩
theorem tGetG (w0 : World) (sh : Shared) (p : Nat) (P : Pl) (r : Int) (hT : (⟨P, r, hsI, fun _ => true⟩ : Tr).Ok) (x : Int) (l : List Int) (a : Option Addr) (c : Nat) (hl : RdSl w0 sh encI 1 (.slice a l.length c) l) (hx : l[0]? = some x) :
    FnG w0 sh 223 [onV p P r, .slice a l.length c] p (mtGet ⟨P, r, hsI, fun _ => true⟩ x) encI2 := by
  intro s hS
  have hG := At.start hS
  generalize Pg.run _ s = R at hG ⊢
  unfold mtGet at hG
  obtain ⟨b, off, cc, T, fr, rfl, e2, _, e4⟩ := hl.cells hx
  have h0 : 0 < l.length := (List.getElem?_eq_some_iff.1 hx).1
  refine fn_of_run en223 fn223 rfl rfl rfl ?_
  repeat (first | refine zck ?_ | refine zcl ?_ | refine zcm ?_ | refine zcn ?_)
  first | refine zcp (by kernel_rfl) ?_ | refine zcq PP_mixed (by kernel_rfl) (by kernel_rfl) ?_
  repeat' (refine zap rfl ?_; first | refine zaq (cs := [_, _, _, _, _]) rfl (fun tb => ?_) | refine zan rfl ?_)
  all_goals refine zch ?_
  all_goals repeat (first | refine zck ?_ | refine zcl ?_ | refine zcm ?_ | refine zcn ?_)
  refine run_share [1] rfl ?_
  repeat (first | refine zck ?_ | refine zcl ?_ | refine zcm ?_ | refine zcn ?_)
  first | refine zcp (by kernel_rfl) ?_ | refine zcq PP_mixed (by kernel_rfl) (by kernel_rfl) ?_
  repeat' (refine zap rfl ?_; first | refine zad rfl (fun hF Γ w h1 h2 => e2 hF Γ w (fun p hp => h1 p (.tail _ hp)) h2) (e4 0 _ rfl _ (by omega)) ?_ | refine zan rfl ?_ | refine zan rfl ?_ | refine zaa 0 rfl rfl rfl ?_ | refine zah [] (onTrie_spec w0 p P r) rfl rfl rfl sub_nil rfl ?_ | refine reg_callG [0] hG (trGet w0 p _ hT (tI_of P r) x) rfl rfl rfl sub_nil (fun e s hG => ?_) | refine zah [] (found_spec w0 _ _) rfl rfl rfl sub_nil rfl ?_ | refine zao rfl ?_ | refine zan rfl ?_ | refine zas rfl rfl (by omega) ?_)
  all_goals refine zch ?_
  all_goals repeat (first | refine zck ?_ | refine zcl ?_ | refine zcm ?_ | refine zcn ?_)
  rw [hG.done]
  exact ret_tmp2 rfl ⟨rfl, rfl⟩
theorem tHasG (w0 : World) (sh : Shared) (p : Nat) (P : Pl) (r : Int) (hT : (⟨P, r, hsI, fun _ => true⟩ : Tr).Ok) (x : Int) (l : List Int) (a : Option Addr) (c : Nat) (hl : RdSl w0 sh encI 1 (.slice a l.length c) l) (hx : l[0]? = some x) :
    FnG w0 sh 225 [onV p P r, .slice a l.length c] p (mtHas ⟨P, r, hsI, fun _ => true⟩ x) encI2 := by
  intro s hS
  have hG := At.start hS
  generalize Pg.run _ s = R at hG ⊢
  unfold mtHas at hG
  obtain ⟨b, off, cc, T, fr, rfl, e2, _, e4⟩ := hl.cells hx
  have h0 : 0 < l.length := (List.getElem?_eq_some_iff.1 hx).1
  refine fn_of_run en225 fn225 rfl rfl rfl ?_
  repeat (first | refine zck ?_ | refine zcl ?_ | refine zcm ?_ | refine zcn ?_)
  first | refine zcp (by kernel_rfl) ?_ | refine zcq PP_mixed (by kernel_rfl) (by kernel_rfl) ?_
  repeat' (refine zap rfl ?_; first | refine zaq (cs := [_, _, _, _, _]) rfl (fun tb => ?_) | refine zan rfl ?_)
  all_goals refine zch ?_
  all_goals repeat (first | refine zck ?_ | refine zcl ?_ | refine zcm ?_ | refine zcn ?_)
  refine run_share [1] rfl ?_
  repeat (first | refine zck ?_ | refine zcl ?_ | refine zcm ?_ | refine zcn ?_)
  first | refine zcp (by kernel_rfl) ?_ | refine zcq PP_mixed (by kernel_rfl) (by kernel_rfl) ?_
  repeat' (refine zap rfl ?_; first | refine zad rfl (fun hF Γ w h1 h2 => e2 hF Γ w (fun p hp => h1 p (.tail _ hp)) h2) (e4 0 _ rfl _ (by omega)) ?_ | refine zan rfl ?_ | refine zan rfl ?_ | refine zaa 0 rfl rfl rfl ?_ | refine zah [] (onTrie_spec w0 p P r) rfl rfl rfl sub_nil rfl ?_ | refine reg_callG [0] hG (trGet w0 p _ hT (tI_of P r) x) rfl rfl rfl sub_nil (fun e s hG => ?_) | refine zao rfl ?_ | refine zan rfl ?_ | refine zas rfl rfl (by omega) ?_)
  all_goals refine zch ?_
  all_goals repeat (first | refine zck ?_ | refine zcl ?_ | refine zcm ?_ | refine zcn ?_)
  repeat' (first | refine zcp (by kernel_rfl) ?_ | (refine zap rfl ?_; first | refine zan rfl ?_ | refine zan rfl ?_ | refine zah [] (truth_spec w0 _) rfl rfl rfl sub_nil rfl ?_ | refine zan rfl ?_) | refine zch ?_)
  rw [hG.done]
  exact ret_tmp2 rfl ⟨rfl, rfl⟩
theorem doG (w0 : World) (sh : Shared) (p : Nat) (P : Pl) (k r : Int) (name : ByteArray) (a : Option Addr) (len c : Nat) (m : MRow) (hm : ((msK k).find? fun m => decide (m.1.1 = name)) = some m) (hk : ctName k ≠ bs []) (ha : m.1.2.1 = (len : Int)) (g : Pg (Int × Int))
    (hf : FnG w0 sh m.2 [onV p P r, .slice a len c] p g encI2) :
    FnG w0 sh 13 [spP p, poolV P, .agg (List.toArray [.int .i64 k, .int .i64 r]), .string name, .slice a len c] p (doP g) encI2 := by
  intro s hS
  have hG := At.start hS
  generalize Pg.run _ s = R at hG ⊢
  unfold doP at hG
  have hfm := findM_spec w0 k name
  rw [hm] at hfm
  unfold findMV at hfm
  have hnm := name_spec w0 k
  obtain ⟨⟨mn, ma, mw⟩, mf⟩ := m
  dsimp only at ha hf hfm
  subst ha
  have hfm : FnE PP w0 [] 31 [.int .i64 k, .string name] [] (.tuple #[.agg (List.toArray [.string mn, .int .i64 (len : Int), .bool mw, .func (.func mf) #[] #[]]), .bool true]) [] := hfm
  refine fn_of_run en13 fn13 rfl rfl rfl ?_
  repeat (first | refine zck ?_ | refine zcl ?_ | refine zcm ?_ | refine zcn ?_)
  first | refine zcp (by kernel_rfl) ?_ | refine zcq PP_mixed (by kernel_rfl) (by kernel_rfl) ?_
  repeat' (refine zap rfl ?_; first | refine zaq (cs := [_, _, _]) rfl (fun t6 => ?_) | refine zaq (cs := [_, _]) rfl (fun t7 => ?_) | refine zan rfl ?_)
  all_goals refine zch ?_
  all_goals repeat (first | refine zck ?_ | refine zcl ?_ | refine zcm ?_ | refine zcn ?_)
  refine run_share [1] rfl ?_
  refine run_share [1] rfl ?_
  repeat (first | refine zck ?_ | refine zcl ?_ | refine zcm ?_ | refine zcn ?_)
  first | refine zcp (by kernel_rfl) ?_ | refine zcq PP_mixed (by kernel_rfl) (by kernel_rfl) ?_
  repeat' (refine zap rfl ?_; first | refine reg_eqSF rfl rfl hk ?_ | refine zaa 0 rfl rfl rfl ?_ | refine zah [] hnm rfl rfl rfl sub_nil rfl ?_ | refine zao rfl ?_)
  all_goals refine zch ?_
  all_goals repeat (first | refine zck ?_ | refine zcl ?_ | refine zcm ?_ | refine zcn ?_)
  refine zcj rfl ?_
  repeat (first | refine zck ?_ | refine zcl ?_ | refine zcm ?_ | refine zcn ?_)
  first | refine zcp (by kernel_rfl) ?_ | refine zcq PP_mixed (by kernel_rfl) (by kernel_rfl) ?_
  repeat' (refine zap rfl ?_; first | refine zar (fun t12 => ?_) | refine zan rfl ?_ | refine zan rfl ?_ | refine zaa 0 rfl rfl rfl ?_ | refine zah [] hfm rfl rfl rfl sub_nil rfl ?_ | refine zao rfl ?_ | refine zan rfl ?_ | refine zae 1 rfl rfl rfl rfl rfl rfl rfl ?_)
  all_goals refine zch ?_
  all_goals repeat (first | refine zck ?_ | refine zcl ?_ | refine zcm ?_ | refine zcn ?_)
  refine run_share [1] rfl ?_
  repeat (first | refine zck ?_ | refine zcl ?_ | refine zcm ?_ | refine zcn ?_ | refine zco ?_)
  repeat (first | refine zck ?_ | refine zcl ?_ | refine zcm ?_ | refine zcn ?_)
  first | refine zcp (by kernel_rfl) ?_ | refine zcq PP_mixed (by kernel_rfl) (by kernel_rfl) ?_
  repeat' (refine zap rfl ?_; first | refine zbx rfl ?_ | refine zan rfl ?_ | refine zan rfl ?_)
  all_goals refine zch ?_
  all_goals repeat (first | refine zck ?_ | refine zcl ?_ | refine zcm ?_ | refine zcn ?_)
  refine zcj rfl ?_
  repeat (first | refine zck ?_ | refine zcl ?_ | refine zcm ?_ | refine zcn ?_)
  first | refine zcp (by kernel_rfl) ?_ | refine zcq PP_mixed (by kernel_rfl) (by kernel_rfl) ?_
  repeat' (refine zap rfl ?_; first | refine zan rfl ?_ | refine zan rfl ?_ | refine zaa 0 rfl rfl rfl ?_ | refine zce rfl ?_ | refine zao rfl ?_ | refine zbf rfl rfl (by omega) ?_)
  all_goals refine zch ?_
  all_goals repeat (first | refine zck ?_ | refine zcl ?_ | refine zcm ?_ | refine zcn ?_)
  refine zcj rfl ?_
  repeat (first | refine zck ?_ | refine zcl ?_ | refine zcm ?_ | refine zcn ?_)
  first | refine zcp (by kernel_rfl) ?_ | refine zcq PP_mixed (by kernel_rfl) (by kernel_rfl) ?_
  repeat' (refine zap rfl ?_; first | refine zcb rfl ?_ | refine zan rfl ?_ | refine zan rfl ?_ | refine zaa 0 rfl rfl rfl ?_ | refine zaa 1 rfl rfl rfl ?_ | refine zaa 2 rfl rfl rfl ?_ | refine reg_callG [0] hG hf rfl rfl rfl (fun p hp => .tail _ (.tail _ (.tail _ hp))) (fun q s hG => ?_) | refine zao rfl ?_ | refine zan rfl ?_)
  all_goals refine zch ?_
  all_goals repeat (first | refine zck ?_ | refine zcl ?_ | refine zcm ?_ | refine zcn ?_)
  obtain ⟨v, e⟩ := q
  dsimp only at hG
  by_cases he : e = 0
  · subst he
    repeat (first | refine zck ?_ | refine zcl ?_ | refine zcm ?_ | refine zcn ?_)
    first | refine zcp (by kernel_rfl) ?_ | refine zcq PP_mixed (by kernel_rfl) (by kernel_rfl) ?_
    repeat' (refine zap rfl ?_; first | refine zan rfl ?_ | refine zbf rfl rfl (by omega) ?_)
    all_goals refine zch ?_
    all_goals repeat (first | refine zck ?_ | refine zcl ?_ | refine zcm ?_ | refine zcn ?_)
    refine zcj rfl ?_
    repeat' (first | refine zck ?_ | refine zcp (by kernel_rfl) ?_ | refine zcm ?_ | (refine zap rfl ?_; first | refine zan rfl ?_ | refine zan rfl ?_) | refine zch ?_)
    rw [hG.done]
    exact ret_tmp2 rfl ⟨rfl, rfl⟩
  · repeat (first | refine zck ?_ | refine zcl ?_ | refine zcm ?_ | refine zcn ?_)
    first | refine zcp (by kernel_rfl) ?_ | refine zcq PP_mixed (by kernel_rfl) (by kernel_rfl) ?_
    repeat' (refine zap rfl ?_; first | refine zan rfl ?_ | refine zbe rfl rfl (by omega) ?_)
    all_goals refine zch ?_
    all_goals repeat (first | refine zck ?_ | refine zcl ?_ | refine zcm ?_ | refine zcn ?_)
    refine zci rfl ?_
    repeat' (first | refine zck ?_ | refine zcp (by kernel_rfl) ?_ | (refine zap rfl ?_; first | refine zan rfl ?_ | refine zan rfl ?_) | refine zch ?_)
    rw [hG.done]
    refine ret_tmp2 rfl ⟨?_, rfl⟩
    show encI2 (0, e) = encI2 (if e ≠ 0 then 0 else v, e)
    rw [if_pos he]
end Go.Proofs.YtgdhcgnmffgkiaaGreatDoor

namespace Sim
open Go Go.Vc
structure Te where
  pool : Pl
  root : Int
def Te.Ok (T : Te) : Prop := T.pool.Ok ∧ 0 ≤ T.root ∧ T.root ≤ 4096
abbrev Wk := Bool × Int
def Wk.Ok (w : Wk) : Prop := -1 ≤ w.2 ∧ w.2 ≤ 8256 ∧ (w.1 = false → 0 ≤ w.2)
def xorU (a b : Int) : Int := IntKind.u64.wrap ((BitVec.ofInt 64 a ^^^ BitVec.ofInt 64 b).toNat : Nat)
def rankX (k : Int) : Int := IntKind.u64.wrap (xorU (IntKind.u64.wrap k) (IntKind.u64.wrap k / 2 ^ 33) * 18397679294719823053)
def rankT (k : Int) : Int := xorU (rankX k) (rankX k / 2 ^ 33)
namespace Te
variable (T : Te)
def kid (k key : Int) : Int := if k < key then 2 else 3
def is (a : Int) (w : Wk) : Bool × Wk :=
  if a = 0 ∨ w.1 = true then (false, w) else
  (!(if T.pool.node a = true then decide (w64 (w.2 - 1) < 0) else true), (if T.pool.node a = true then decide (w64 (w.2 - 1) < 0) else true), w64 (w.2 - 1))
def start : Wk := (false, w64 (64 * w64 (T.pool.nodes + 1)))
def ofW (a cell : Int) (w : Wk) : Pg (Int × Wk) :=
  if (T.is a w).1 = true then do
    let v ← Pg.gt (w64 (a + cell))
    pure (v, (T.is a w).2)
  else pure (0, (T.is a w).2)
def refresh (a : Int) (w : Wk) : Pg (Unit × Wk) := do
  let l ← Pg.gt (w64 (a + 2))
  let r ← Pg.gt (w64 (a + 3))
  let x ← T.ofW l 4 w
  let y ← T.ofW r 4 x.2
  let _ ← Pg.pt (w64 (a + 4)) (w64 (w64 (1 + x.1) + y.1))
  let v ← Pg.gt (w64 (a + 1))
  let x ← T.ofW l 5 y.2
  let y ← T.ofW r 5 x.2
  let _ ← Pg.pt (w64 (a + 5)) (w64 (w64 (v + x.1) + y.1))
  pure ((), y.2)
def wayK {β : Type} (f : β → Int × Int → Pg (β × Bool)) (k : Int) : Nat → Int → Wk → β → Pg ((β × Bool) × Wk)
  | 0, a, w, acc => pure ((acc, false), if (T.is a w).1 = true then (true, (T.is a w).2.2) else (T.is a w).2)
  | j + 1, a, w, acc =>
    if (T.is a w).1 = true then do
      let key ← Pg.gt (w64 (a + 0))
      let r ← f acc (a, key)
      if r.2 = false then pure ((r.1, true), (T.is a w).2) else
      if key = k then pure ((r.1, false), (T.is a w).2) else do
        let b ← Pg.gt (w64 (a + kid k key))
        wayK f k j b (T.is a w).2 r.1
    else pure ((acc, false), (T.is a w).2)
def way {β : Type} (f : β → Int × Int → Pg (β × Bool)) (k : Int) (w : Wk) (acc : β) : Pg ((β × Bool) × Wk) := do
  let a ← Pg.gt T.root
  T.wayK f k T.pool.nodes.toNat a w acc
def pathF (acc : List (Int × Int)) (x : Int × Int) : Pg (List (Int × Int) × Bool) := pure (acc ++ [x], true)
def hasKey (k : Int) (l : List (Int × Int)) : Bool := match l.getLast? with | some x => decide (x.2 = k) | none => false
def path (k : Int) (w : Wk) : Pg ((List (Int × Int) × Bool) × Wk) := do
  let r ← T.way pathF k w []
  pure ((r.1.1, hasKey k r.1.1), r.2)
def add : List (Int × Int) → Int → Int → Pg Unit
  | [], _, _ => pure ()
  | x :: l, n, v => do
    let _ ← (if n ≠ 0 then do
        let c ← Pg.gt (w64 (x.1 + 4))
        Pg.pt (w64 (x.1 + 4)) (w64 (c + n))
      else pure ())
    let _ ← (if v ≠ 0 then do
        let c ← Pg.gt (w64 (x.1 + 5))
        Pg.pt (w64 (x.1 + 5)) (w64 (c + v))
      else pure ())
    add l n v
def split (k : Int) : Nat → Int → Wk → Pg ((Int × Int) × Wk)
  | 0, a, w => pure ((0, 0), (T.is a w).2)
  | j + 1, a, w =>
    if (T.is a w).1 = true then do
      let key ← Pg.gt (w64 (a + 0))
      if key < k then do
        let b ← Pg.gt (w64 (a + 3))
        let r ← split k j b (T.is a w).2
        let _ ← Pg.pt (w64 (a + 3)) r.1.1
        let u ← T.refresh a r.2
        pure ((a, r.1.2), u.2)
      else do
        let b ← Pg.gt (w64 (a + 2))
        let r ← split k j b (T.is a w).2
        let _ ← Pg.pt (w64 (a + 2)) r.1.2
        let u ← T.refresh a r.2
        pure ((r.1.1, a), u.2)
    else pure ((0, 0), (T.is a w).2)
def merge : Nat → Int → Int → Wk → Pg (Int × Wk)
  | 0, a, b, w => pure (if (T.is a w).1 = true then a else b, if (T.is a w).1 = true then (T.is b (T.is a w).2).2 else (T.is a w).2)
  | j + 1, a, b, w =>
    if (T.is a w).1 = true then
      if (T.is b (T.is a w).2).1 = true then do
        let x ← Pg.gt (w64 (a + 0))
        let y ← Pg.gt (w64 (b + 0))
        if rankT x > rankT y then do
          let c ← Pg.gt (w64 (a + 3))
          let r ← merge j c b (T.is b (T.is a w).2).2
          let _ ← Pg.pt (w64 (a + 3)) r.1
          let u ← T.refresh a r.2
          pure (a, u.2)
        else do
          let c ← Pg.gt (w64 (b + 2))
          let r ← merge j a c (T.is b (T.is a w).2).2
          let _ ← Pg.pt (w64 (b + 2)) r.1
          let u ← T.refresh b r.2
          pure (b, u.2)
      else pure (a, (T.is b (T.is a w).2).2)
    else pure (b, (T.is a w).2)
def hang (l : List (Int × Int)) (k a : Int) : Pg Unit :=
  match l.getLast? with
  | none => Pg.pt T.root a
  | some x => Pg.pt (w64 (x.1 + kid k x.2)) a
def after {α : Type} (m : Nat) (r : α × Int) : Pg (α × Int) := if r.2 ≠ 0 then do
    let _ ← Pg.bk m
    pure r
  else pure r
def above (k : Int) : List (Int × Int) → Nat
  | [] => 0
  | x :: l => if rankT x.2 > rankT k then above k l + 1 else 0
def cutAt (k : Int) : Option (Int × Int) → Wk → Pg ((Int × Int) × Wk)
  | some x, w => T.split k 8258 x.1 w
  | none, w => pure ((0, 0), w)
def putEnd (k v : Int) (l : List (Int × Int)) (a : Int) (r : (Int × Int) × Wk) : Pg ((Int × Bool) × Int) := do
  let _ ← Pg.pt (w64 (a + 2)) r.1.1
  let _ ← Pg.pt (w64 (a + 3)) r.1.2
  let u ← T.refresh a r.2
  let _ ← add (l.take (above k l)) 1 v
  let _ ← T.hang (l.take (above k l)) k a
  let c ← Pg.gt (w64 (T.root + 7))
  let _ ← Pg.pt (w64 (T.root + 7)) (w64 (c + 1))
  pure (if u.2.1 = true then ((0, false), 24) else ((0, false), 0))
def putNew (k v : Int) (l : List (Int × Int)) (w : Wk) : Pg ((Int × Bool) × Int) := do
  let t ← T.pool.takeP
  if t.2 ≠ 0 then pure ((0, false), t.2) else do
    let _ ← Pg.pt (w64 (t.1 + 0)) k
    let _ ← Pg.pt (w64 (t.1 + 1)) v
    let r ← T.cutAt k l[above k l]? w
    T.putEnd k v l t.1 r
def putAs (k v : Int) (l : List (Int × Int)) (w : Wk) : Bool → Option (Int × Int) → Pg ((Int × Bool) × Int)
  | true, some x => do
    let old ← Pg.gt (w64 (x.1 + 1))
    let _ ← Pg.pt (w64 (x.1 + 1)) v
    let _ ← add l 0 (w64 (v - old))
    pure ((old, true), 0)
  | _, _ => T.putNew k v l w
def putIn (k v : Int) : Pg ((Int × Bool) × Int) := do
  let r ← T.path k T.start
  if r.2.1 = true then pure ((0, false), 24) else T.putAs k v r.1.1 r.2 r.1.2 r.1.1.getLast?
def put (k v : Int) : Pg ((Int × Bool) × Int) := do
  let m ← Pg.mk
  let r ← T.putIn k v
  after m r
def dropAt (k : Int) (l : List (Int × Int)) (x : Int × Int) (w : Wk) : Pg ((Int × Bool) × Int) := do
  let old ← Pg.gt (w64 (x.1 + 1))
  let a ← Pg.gt (w64 (x.1 + 2))
  let b ← Pg.gt (w64 (x.1 + 3))
  let r ← T.merge 8258 a b w
  let _ ← T.hang l k r.1
  let _ ← add l (-1) (w64 (0 - old))
  let c ← Pg.gt (w64 (T.root + 7))
  let _ ← Pg.pt (w64 (T.root + 7)) (w64 (c - 1))
  if r.2.1 = true then pure ((0, false), 24) else do
    let e ← T.pool.giveP x.1
    if e ≠ 0 then pure ((0, false), e) else pure ((old, true), 0)
def dropAs (k : Int) (l : List (Int × Int)) (w : Wk) : Bool → Option (Int × Int) → Pg ((Int × Bool) × Int)
  | true, some x => T.dropAt k l.dropLast x w
  | _, _ => pure ((0, false), 0)
def dropIn (k : Int) : Pg ((Int × Bool) × Int) := do
  let r ← T.path k T.start
  if r.2.1 = true then pure ((0, false), 24) else T.dropAs k r.1.1 r.2 r.1.2 r.1.1.getLast?
def drop (k : Int) : Pg ((Int × Bool) × Int) := do
  let m ← Pg.mk
  let r ← T.dropIn k
  after m r
def getF (k : Int) (acc : Int) (x : Int × Int) : Pg (Int × Bool) :=
  if x.2 = k then do
    let v ← Pg.gt (w64 (x.1 + 1))
    pure (v, false)
  else pure (acc, true)
def get (k : Int) : Pg (Int × Bool) := do
  let r ← T.way (getF k) k T.start 0
  pure (if r.1.2 = true then (r.1.1, true) else (0, false))
def nextF (k : Int) (acc : Int × Bool) (x : Int × Int) : Pg ((Int × Bool) × Bool) := pure (if k ≤ x.2 then (x.2, true) else acc, true)
def next (k : Int) : Pg (Int × Bool) := do
  let r ← T.way (nextF k) k T.start (0, false)
  pure r.1.1
def nthK : Nat → Int → Wk → Int → Pg (Int × Bool)
  | 0, _, _, _ => pure (0, false)
  | j + 1, a, w, n =>
    if (T.is a w).1 = true then do
      let l ← Pg.gt (w64 (a + 2))
      let x ← T.ofW l 4 T.start
      if n = x.1 then do
        let key ← Pg.gt (w64 (a + 0))
        pure (key, true)
      else if n < x.1 then nthK j l (T.is a w).2 n
      else do
        let c ← Pg.gt (w64 (a + 3))
        nthK j c (T.is a w).2 (w64 (n - w64 (x.1 + 1)))
    else pure (0, false)
def nth (n : Int) : Pg (Int × Bool) :=
  if n < 0 then pure (0, false) else do
    let a ← Pg.gt T.root
    T.nthK T.pool.nodes.toNat a T.start n
def len : Pg Int := Pg.gt (w64 (T.root + 7))
end Te
end Sim

namespace Sim
open Go Go.Vc
structure He where
  pool : Pl
  root : Int
def He.Ok (H : He) : Prop := H.pool.Ok ∧ 0 ≤ H.root ∧ H.root ≤ 4096
def ahdB (a b : Int × Int) : Bool := decide (a.1 < b.1 ∨ (a.1 = b.1 ∧ a.2 < b.2))
namespace He
variable (H : He)
def nd (n : Int) (b : Bool) : Int × Bool := if H.pool.node n = true then (n, b) else (0, true)
def get (a c : Int) : Pg Int := if a = 0 then pure 0 else Pg.gt (w64 (a + c))
def put (a c v : Int) : Pg Unit := if a = 0 then pure () else do
  let _ ← Pg.pt (w64 (a + c)) v
  pure ()
def rt (c : Int) : Pg Int := Pg.gt (w64 (H.root + c))
def add (c n : Int) : Pg Unit := do
  let v ← H.rt c
  let _ ← Pg.pt (w64 (H.root + c)) (w64 (v + n))
  pure ()
def row (x : Int) (b : Bool) : Pg (Int × Bool) := do
  let v ← H.rt (3 + (x - 1) / 8)
  pure (H.nd v b)
def item (x : Int) (b : Bool) : Pg (Int × Bool) := do
  let r ← H.row x b
  if r.1 = 0 then pure (0, r.2) else do
    let v ← get r.1 ((x - 1) % 8)
    pure (H.nd v r.2)
def key (a : Int) : Pg (Int × Int) := do
  let x ← get a 0
  let y ← get a 2
  pure (x, y)
def lay (x a : Int) (b : Bool) : Pg (Unit × Bool) := do
  let r ← H.row x b
  let _ ← put r.1 ((x - 1) % 8) a
  let _ ← put a 3 x
  pure ((), r.2)
def riseK (own : Int × Int) (a : Int) : Nat → Int → Bool → Pg (Int × Bool)
  | 0, x, b => do
    let b ← H.lay x a b
    pure (x, b.2)
  | k + 1, x, b =>
    if 1 < x ∧ b = false then do
      let u ← H.item (x / 2) b
      let q ← key u.1
      if ahdB own q = true then do
        let b ← H.lay x u.1 u.2
        riseK own a k (x / 2) b.2
      else do
        let b ← H.lay x a u.2
        pure (x, b.2)
    else do
      let b ← H.lay x a b
      pure (x, b.2)
def rise (x a : Int) (b : Bool) : Pg (Int × Bool) := do
  let own ← key a
  H.riseK own a 7 x b
def kid (x n : Int) (b : Bool) : Pg ((Int × Int) × Bool) := do
  let u ← H.item (2 * x) b
  if 2 * x < n then do
    let v ← H.item (2 * x + 1) u.2
    let p ← key v.1
    let q ← key u.1
    if ahdB p q = true then pure ((2 * x + 1, v.1), v.2) else pure ((2 * x, u.1), v.2)
  else pure ((2 * x, u.1), u.2)
def sinkK (own : Int × Int) (a n : Int) : Nat → Int → Bool → Pg (Unit × Bool)
  | 0, x, b => H.lay x a b
  | k + 1, x, b =>
    if 2 * x ≤ n ∧ b = false then do
      let u ← H.kid x n b
      let q ← key u.1.2
      if ahdB q own = true then do
        let b ← H.lay x u.1.2 u.2
        sinkK own a n k u.1.1 b.2
      else H.lay x a u.2
    else H.lay x a b
def sink (x a n : Int) (b : Bool) : Pg (Unit × Bool) := do
  let own ← key a
  H.sinkK own a n 7 x b
def many : Pg (Int × Bool) := do
  let n ← H.rt 0
  pure (n, decide (0 ≤ n ∧ n ≤ 32))
def take : Pg (Int × Int) := do
  let t ← H.pool.takeP
  if t.2 = 0 then do
    let _ ← H.add 7 1
    pure t
  else pure t
def give (a : Int) : Pg Int := do
  let e ← H.pool.giveP a
  if e = 0 then do
    let _ ← H.add 7 (-1)
    pure e
  else pure e
def endE (e : Int) (b : Bool) : Int := if b = true ∧ e = 0 then 24 else e
def after (m : Nat) (r : Int × Int) (b : Bool) : Pg (Int × Int) := if endE r.2 b ≠ 0 then do
    let _ ← Pg.bk m
    pure (r.1, endE r.2 b)
  else pure (r.1, endE r.2 b)
def afterP (m : Nat) (r : Int × Int) (b : Bool) : Pg (Int × Int) := if endE r.2 b ≠ 0 then do
    let _ ← Pg.bk m
    pure (0, endE r.2 b)
  else pure (r.1, endE r.2 b)
def after3 (m : Nat) (r : (Int × Int) × Int) (b : Bool) : Pg ((Int × Int) × Int) := if endE r.2 b ≠ 0 then do
    let _ ← Pg.bk m
    pure (r.1, endE r.2 b)
  else pure (r.1, endE r.2 b)
def pushAt (n pr v a : Int) : Pg ((Int × Int) × Bool) := do
  let _ ← put a 0 pr
  let _ ← put a 1 v
  let o ← H.rt 1
  let _ ← put a 2 o
  let _ ← H.add 1 1
  let _ ← H.add 0 1
  let r ← H.rise (n + 1) a false
  pure ((a, 0), r.2)
def pushIn (pr v : Int) : Pg ((Int × Int) × Bool) := do
  let n ← H.many
  if n.1 = 32 then pure ((0, 9), false) else
  if n.2 = true then do
    let o ← H.rt 1
    if 4611686018427387904 ≤ o then pure ((0, 9), false) else do
      let a ← H.take
      if a.2 ≠ 0 then pure ((0, a.2), false) else
      if n.1 % 8 = 0 then do
        let t ← H.take
        if t.2 ≠ 0 then pure ((0, t.2), false) else do
          let _ ← Pg.pt (w64 (H.root + (3 + n.1 / 8))) t.1
          H.pushAt n.1 pr v a.1
      else H.pushAt n.1 pr v a.1
  else pure ((0, 24), false)
def push (pr v : Int) : Pg (Int × Int) := do
  let m ← Pg.mk
  let r ← H.pushIn pr v
  afterP m r.1 r.2
def rmEnd (p v it : Int) (b : Bool) : Pg (((Int × Int) × Int) × Bool) := do
  let e ← H.give it
  if e ≠ 0 then pure (((0, 0), e), b) else
  if b = true then pure (((0, 0), 24), b) else pure (((p, v), 0), b)
def rmRow (n p v it r : Int) (b : Bool) : Pg (((Int × Int) × Int) × Bool) :=
  if (n - 1) % 8 = 0 then do
    let _ ← Pg.pt (w64 (H.root + (3 + (n - 1) / 8))) 0
    let e ← H.give r
    if e ≠ 0 then pure (((0, 0), e), b) else H.rmEnd p v it b
  else H.rmEnd p v it b
def remove (x n : Int) : Pg (((Int × Int) × Int) × Bool) := do
  let it ← H.item x false
  let l ← H.item n it.2
  let p ← get it.1 0
  let v ← get it.1 1
  let r ← H.row n l.2
  if r.2 = true then pure (((0, 0), 24), true) else do
    let _ ← H.add 0 (-1)
    if x = n then H.rmRow n p v it.1 r.1 false else do
      let q ← H.rise x l.1 false
      if q.1 = x then do
        let b ← H.sink x l.1 (n - 1) q.2
        H.rmRow n p v it.1 r.1 b.2
      else H.rmRow n p v it.1 r.1 q.2
def popIn : Pg (((Int × Int) × Int) × Bool) := do
  let n ← H.many
  if n.1 = 0 then pure (((0, 0), 8), false) else
  if n.2 = true then H.remove 1 n.1 else pure (((0, 0), 24), false)
def pop : Pg ((Int × Int) × Int) := do
  let m ← Pg.mk
  let r ← H.popIn
  after3 m r.1 r.2
def min : Pg ((Int × Int) × Int) := do
  let n ← H.many
  if n.1 = 0 then pure ((0, 0), 8) else
  if n.2 = true then do
    let it ← H.item 1 false
    let p ← get it.1 0
    let v ← get it.1 1
    if it.2 = true then pure ((0, 0), 24) else pure ((p, v), 0)
  else pure ((0, 0), 24)
def find (h : Int) : Pg (((Int × Int) × (Int × Int)) × Bool) := do
  let n ← H.many
  if n.2 = true then
    if H.pool.node h = true then do
      let p ← get h 3
      if p < 1 ∨ n.1 < p then pure (((0, 0), (0, 10)), false) else do
        let r ← H.row p false
        if r.2 = true then pure (((0, 0), (0, 24)), true) else do
          let x ← get r.1 ((p - 1) % 8)
          if x ≠ h then pure (((0, 0), (0, 10)), false) else pure (((h, p), (n.1, 0)), false)
    else pure (((0, 0), (0, 10)), false)
  else pure (((0, 0), (0, 24)), false)
def dropIn (h : Int) : Pg ((Int × Int) × Bool) := do
  let f ← H.find h
  if f.1.2.2 ≠ 0 then pure ((0, f.1.2.2), f.2) else do
    let r ← H.remove f.1.1.2 f.1.2.1
    pure ((r.1.1.2, r.1.2), r.2)
def drop (h : Int) : Pg (Int × Int) := do
  let m ← Pg.mk
  let r ← H.dropIn h
  after m r.1 r.2
def len : Pg Int := Pg.gt (w64 (H.root + 0))
end He
namespace He
open Pg
variable (H : He)
theorem bd_get (a c : Int) : Bd 0 (get a c) := by unfold get; repeat' first | exact bd_gt0 _ | exact bd_pure _ | with_reducible refine bd_ite ?_ ?_ | with_reducible refine bd_then (bd_gt0 _) ?_ (by decide) | with_reducible refine bd_then (bd_pt _ _) ?_ (by decide) | with_reducible refine bd_then bd_mk0 ?_ (by decide) | with_reducible refine bd_then (bd_bk0 _) ?_ (by decide) | intro _
theorem bd_put (a c v : Int) : Bd 1 (put a c v) := by unfold put; repeat' first | exact bd_pure _ | with_reducible refine bd_ite ?_ ?_ | with_reducible refine bd_then (bd_gt0 _) ?_ (by decide) | with_reducible refine bd_then (bd_pt _ _) ?_ (by decide) | with_reducible refine bd_then bd_mk0 ?_ (by decide) | with_reducible refine bd_then (bd_bk0 _) ?_ (by decide) | intro _
theorem bd_rt (c : Int) : Bd 0 (H.rt c) := bd_gt0 _
theorem bd_add (c n : Int) : Bd 1 (H.add c n) := by unfold add; repeat' first | with_reducible refine bd_then (H.bd_rt _) ?_ (by decide) | exact bd_pure _ | with_reducible refine bd_ite ?_ ?_ | with_reducible refine bd_then (bd_gt0 _) ?_ (by decide) | with_reducible refine bd_then (bd_pt _ _) ?_ (by decide) | with_reducible refine bd_then bd_mk0 ?_ (by decide) | with_reducible refine bd_then (bd_bk0 _) ?_ (by decide) | intro _
theorem bd_row (x : Int) (b : Bool) : Bd 0 (H.row x b) := by unfold row; repeat' first | with_reducible refine bd_then (H.bd_rt _) ?_ (by decide) | exact bd_pure _ | with_reducible refine bd_ite ?_ ?_ | with_reducible refine bd_then (bd_gt0 _) ?_ (by decide) | with_reducible refine bd_then (bd_pt _ _) ?_ (by decide) | with_reducible refine bd_then bd_mk0 ?_ (by decide) | with_reducible refine bd_then (bd_bk0 _) ?_ (by decide) | intro _
theorem bd_many : Bd 0 H.many := by unfold many; repeat' first | with_reducible refine bd_then (H.bd_rt _) ?_ (by decide) | exact bd_pure _ | with_reducible refine bd_ite ?_ ?_ | with_reducible refine bd_then (bd_gt0 _) ?_ (by decide) | with_reducible refine bd_then (bd_pt _ _) ?_ (by decide) | with_reducible refine bd_then bd_mk0 ?_ (by decide) | with_reducible refine bd_then (bd_bk0 _) ?_ (by decide) | intro _
theorem bd_take : Bd 3 H.take := by unfold take; repeat' first | with_reducible refine bd_then (bd_takeP _) ?_ (by decide) | with_reducible refine bd_then (H.bd_add _ _) ?_ (by decide) | exact bd_pure _ | with_reducible refine bd_ite ?_ ?_ | with_reducible refine bd_then (bd_gt0 _) ?_ (by decide) | with_reducible refine bd_then (bd_pt _ _) ?_ (by decide) | with_reducible refine bd_then bd_mk0 ?_ (by decide) | with_reducible refine bd_then (bd_bk0 _) ?_ (by decide) | intro _
theorem bd_after (m : Nat) (r : Int × Int) (b : Bool) : Bd 0 (after m r b) := by unfold after; repeat' first | exact bd_pure _ | with_reducible refine bd_ite ?_ ?_ | with_reducible refine bd_then (bd_gt0 _) ?_ (by decide) | with_reducible refine bd_then (bd_pt _ _) ?_ (by decide) | with_reducible refine bd_then bd_mk0 ?_ (by decide) | with_reducible refine bd_then (bd_bk0 _) ?_ (by decide) | intro _
theorem bd_afterP (m : Nat) (r : Int × Int) (b : Bool) : Bd 0 (afterP m r b) := by unfold afterP; repeat' first | exact bd_pure _ | with_reducible refine bd_ite ?_ ?_ | with_reducible refine bd_then (bd_gt0 _) ?_ (by decide) | with_reducible refine bd_then (bd_pt _ _) ?_ (by decide) | with_reducible refine bd_then bd_mk0 ?_ (by decide) | with_reducible refine bd_then (bd_bk0 _) ?_ (by decide) | intro _
theorem bd_find (h : Int) : Bd 0 (H.find h) := by unfold find; repeat' first | with_reducible refine bd_then H.bd_many ?_ (by decide) | with_reducible refine bd_then (H.bd_row _ _) ?_ (by decide) | with_reducible refine bd_then (bd_get _ _) ?_ (by decide) | exact bd_pure _ | with_reducible refine bd_ite ?_ ?_ | with_reducible refine bd_then (bd_gt0 _) ?_ (by decide) | with_reducible refine bd_then (bd_pt _ _) ?_ (by decide) | with_reducible refine bd_then bd_mk0 ?_ (by decide) | with_reducible refine bd_then (bd_bk0 _) ?_ (by decide) | intro _
end He
end Sim

namespace Sim
open Go Go.Vc
abbrev hwO (p : Nat) (H : He) (b : Bool) (T : TypeId) : Obj := .cells (List.toArray [.int .i64 H.pool.root, .int .i64 H.pool.frm, .int .i64 H.pool.nodes, .int .i64 H.root, .pointer (some ⟨p, 0, none⟩), .bool b]) T (0, 0)
end Sim
namespace Go.Vc
theorem Fn.perm {P : Program} {w0 : World} {sh : Shared} {f : FuncId} {args : List Value} {Γ Γ' : List Asn} {R : Value → List Asn → Prop} (h : Fn P w0 sh f args Γ R) (hp : Γ'.Perm Γ) : Fn P w0 sh f args Γ' R :=
  ⟨h.enters, fun hF w hsh hst => h.calls hF w hsh (hst.perm hp)⟩
end Go.Vc
namespace Go.Proofs.YtgdhcgnmffgkiaaGreatDoor
open Go.Vc Sim
set_option maxHeartbeats 4000000
abbrev hwA (wb p : Nat) (H : He) (b : Bool) : Asn := pt wb (hwO p H b 200)
abbrev FnW {α : Type} (w0 : World) (f : FuncId) (args : List Value) (p wb : Nat) (H : He) (b : Bool) (g : Pg (α × Bool)) (enc : α → Value) : Prop :=
  ∀ s, Pg.Fits g s → FnE PP w0 [] f args [SpaceA p s, hwA wb p H b] (enc (Pg.run g s).1.1) [SpaceA p (Pg.run g s).2, hwA wb p H (Pg.run g s).1.2]
section
variable {w0 : World} {n : Nat} {sh : Shared} {Q : Exit → Env → List Deferred → List Asn → Prop} {k : List Item} {ρ : Env} {df : List Deferred} {Γ Γr : List Asn}
variable {ops : Array Oper} {l : List (Fl × Nat × Oper)} {i : Nat} {ty : TypeId} {pos : String} {aft : Array Edge} {dst : Option Tmp}
variable {f : FuncId} {args : List Value} {fo : Operand} {cargs : Array Operand} {ats : Array TypeId} {first cap : Array Value}
theorem FnG.own {α : Type} {f : FuncId} {args : List Value} {p b : Nat} {o : Obj} {g : Pg α} {enc : α → Value} (h : FnG w0 [(b, o)] f args p g enc) (s : Sp) (hs : Pg.Fits g s) :
    FnE PP w0 [] f args [SpaceA p s, pt b o] (enc (Pg.run g s).1) [SpaceA p (Pg.run g s).2, pt b o] :=
  (Fn.perm (h s hs).owned (List.Perm.swap _ _ _)).mono fun v Γ' ⟨_, ⟨e1, e2⟩, e3⟩ => ⟨e1, by rw [e3, e2]; rfl⟩
theorem reg_callU (is : List Nat) {α β : Type} {R : β × Sp} {g : Pg α} {kk : α → Pg β} {s : Sp} {p b : Nat} {o : Obj} {enc : α → Value} (hG : At R (g >>= kk) s) (spec : FnG w0 [(b, o)] f args p g enc)
    (hfo : ev ρ fo = .func (.func f) first cap) (hargs : first.toList ++ cargs.toList.map (ev ρ) ++ cap.toList = args)
    (hp : pick is Γ = some ([SpaceA p s, pt b o], Γr)) (h : ∀ x s', At R (kk x) s' → Reg PP w0 n sh Q ops l k (ρ.setO dst (enc x)) df (SpaceA p s' :: pt b o :: Γr)) :
    Reg PP w0 n sh Q ops ((Fl.loud, i, ⟨dst, .call ⟨.value fo, cargs, ats⟩, ty, pos, aft, none⟩) :: l) k ρ df Γ :=
  zah is (FnG.own spec s hG.step.1) hfo hargs hp sub_nil rfl (h _ _ hG.step.2)
theorem reg_callUP (is : List Nat) {α β : Type} {R : β × Sp} {g : Pg α} {kk : α → Pg β} {s : Sp} {p b : Nat} {o : Obj} {enc : α → Value} {φ : α → Prop} (hG : At R (g >>= kk) s) (hφ : Pg.All φ g) (spec : FnG w0 [(b, o)] f args p g enc)
    (hfo : ev ρ fo = .func (.func f) first cap) (hargs : first.toList ++ cargs.toList.map (ev ρ) ++ cap.toList = args)
    (hp : pick is Γ = some ([SpaceA p s, pt b o], Γr)) (h : ∀ x s', φ x → At R (kk x) s' → Reg PP w0 n sh Q ops l k (ρ.setO dst (enc x)) df (SpaceA p s' :: pt b o :: Γr)) :
    Reg PP w0 n sh Q ops ((Fl.loud, i, ⟨dst, .call ⟨.value fo, cargs, ats⟩, ty, pos, aft, none⟩) :: l) k ρ df Γ :=
  zah is (FnG.own spec s hG.step.1) hfo hargs hp sub_nil rfl (h _ _ (Pg.all_run hφ) hG.step.2)
theorem reg_callW (is : List Nat) {α β : Type} {R : β × Sp} {g : Pg (α × Bool)} {kk : α × Bool → Pg β} {s : Sp} {p wb : Nat} {H : He} {b : Bool} {enc : α → Value} (hG : At R (g >>= kk) s) (spec : FnW w0 f args p wb H b g enc)
    (hfo : ev ρ fo = .func (.func f) first cap) (hargs : first.toList ++ cargs.toList.map (ev ρ) ++ cap.toList = args)
    (hp : pick is Γ = some ([SpaceA p s, hwA wb p H b], Γr)) (h : ∀ x c s', At R (kk (x, c)) s' → Reg PP w0 n sh Q ops l k (ρ.setO dst (enc x)) df (SpaceA p s' :: hwA wb p H c :: Γr)) :
    Reg PP w0 n sh Q ops ((Fl.loud, i, ⟨dst, .call ⟨.value fo, cargs, ats⟩, ty, pos, aft, none⟩) :: l) k ρ df Γ :=
  zah is (spec s hG.step.1) hfo hargs hp sub_nil rfl (h _ _ _ hG.step.2)
end
theorem key_underlying : PP.underlying 264 = some (.array 2 2) := by rw [PP_def, Tryz.underlying264]
theorem key_guard : PP.eqGuardType PP.depth 264 = false := by rw [PP_def]; kernel_rfl
theorem i64_eqIn (d : Nat) (m n : Int) (w : World) : (Op.equalIn (d + 1) 2 (.int .i64 m) (.int .i64 n)).run PP w = .ok (decide (m = n)) w := by
  have h2 : PP.underlying 2 = some (.int .i64) := by rw [PP_def, Tryz.underlying2]
  simp [Op.equalIn, run_underlying h2]
  by_cases h : m = n <;> simp [h]
theorem run_equalK {P : Program} {t : TypeId} {u v : Value} {q : Bool} {w : World} (h : ∀ d, (Op.equalIn (d + 2) t u v).run P w = .ok q w) : (Op.equal t u v).run P w = .ok q w := h 9998
theorem key_equal (a b c d : Int) (w : World) : (Op.equal 264 (.agg #[.int .i64 a, .int .i64 b]) (.agg #[.int .i64 c, .int .i64 d])).run PP w = .ok (decide (a = c ∧ b = d)) w := by
  have a2 : ∀ w, (isAgg 2).run PP w = .ok false w := fun w => TShape.agg_run w
  have s2 : ∀ w, (sizeOf 2).run PP w = .ok 1 w := fun w => TShape.size_run w
  have p0 : ∀ (x y : Int) w, (part 2 #[Value.int .i64 x, .int .i64 y] 0).run PP w = .ok (.int .i64 x) w := fun x y w => by simp [part, a2]
  have p1 : ∀ (x y : Int) w, (part 2 #[Value.int .i64 x, .int .i64 y] 1).run PP w = .ok (.int .i64 y) w := fun x y w => by simp [part, a2]
  refine run_equalK (fun e => ?_)
  rw [Op.equalIn]
  simp only [Sem.run_bind, run_underlying key_underlying, Result.andThen_ok, s2]
  by_cases h1 : a = c <;> by_cases h2 : b = d <;> simp [Std.Legacy.Range.forIn_eq_forIn_range', Std.Legacy.Range.size, List.range', p0, p1, i64_eqIn, h1, h2]
section
variable {w0 : World} {n : Nat} {sh : Shared} {Q : Exit → Env → List Deferred → List Asn → Prop} {k : List Item} {ρ : Env} {df : List Deferred} {Γ : List Asn}
variable {ops : Array Oper} {l : List (Fl × Nat × Oper)} {bf : Fl} {i d : Nat} {ty : TypeId} {pos : String} {aft : Array Edge} {x y : Operand} {yt : TypeId}
theorem reg_ne_key {a b a' b' : Int} (q : Bool) (hx : ev ρ x = .agg #[.int .i64 a, .int .i64 b]) (hy : ev ρ y = .agg #[.int .i64 a', .int .i64 b']) (he : (!decide (a = a' ∧ b = b')) = q)
    (h : Reg PP w0 n sh Q ops l k (ρ.set d (.bool q)) df Γ) : Reg PP w0 n sh Q ops ((bf, i, ⟨some d, .binOp .neq 264 x y yt, ty, pos, aft, none⟩) :: l) k ρ df Γ :=
  reg_quiet rfl (fun hF _ => quiet_of_run fun w => by
    have hs : (program).run PP w = .ok PP w := rfl
    have hg : (eqGuard .neq 264 x y (.agg #[.int .i64 a, .int .i64 b]) (.agg #[.int .i64 a', .int .i64 b'])).run PP w = .ok () w := by
      simp [eqGuard, hs, key_guard]
    have hb : (binOp .neq 264 (.agg #[.int .i64 a, .int .i64 b]) (.agg #[.int .i64 a', .int .i64 b'])).run PP w = .ok (.bool q) w := by
      show (do let r ← Op.equal _ _ _; pure (Value.bool (!r)) : Sem Value).run PP w = _
      simp [key_equal, ← he]
    simp only [execOp, hx, hy, Sem.run_bind, hg, hb, Result.andThen_ok, Sem.run_pure]) h
end
theorem heAhead (w0 : World) (a b : Int × Int) : FnE PP w0 [] 275 [.agg (List.toArray [.int .i64 a.1, .int .i64 a.2]), .agg (List.toArray [.int .i64 b.1, .int .i64 b.2])] [] (.bool (ahdB a b)) [] := by
  obtain ⟨x, y⟩ := a
  obtain ⟨u, v⟩ := b
  refine fn_of_run en275 fn275 rfl rfl rfl ?_
  repeat (first | refine zck ?_ | refine zcl ?_ | refine zcm ?_ | refine zcn ?_)
  first | refine zcp (by kernel_rfl) ?_ | refine zcq PP_mixed (by kernel_rfl) (by kernel_rfl) ?_
  repeat' (refine zap rfl ?_; first | refine zan rfl ?_ | refine zaq (cs := [_, _]) rfl (fun nb => ?_))
  all_goals refine zch ?_
  all_goals repeat (first | refine zck ?_ | refine zcl ?_ | refine zcm ?_ | refine zcn ?_)
  refine run_share [0] rfl ?_
  refine run_share [0] rfl ?_
  by_cases h0 : x = u
  · by_cases h1 : y = v
    · have hb : ahdB (x, y) (u, v) = false := decide_eq_false (by dsimp only; omega)
      rw [hb]
      repeat' (first | refine zcp (by kernel_rfl) ?_ | (refine zap rfl ?_; first | refine reg_ne_key false rfl rfl (by rw [decide_eq_true (And.intro h0 h1)]; rfl) ?_ | refine zak rfl ?_ | refine zal rfl ?_ | refine zan rfl ?_ | refine zan rfl ?_ | refine zaa 0 rfl rfl rfl ?_ | refine zaa 1 rfl rfl rfl ?_ | refine zbv rfl ?_) | refine zch ?_)
      exact ret_tmp1 rfl ⟨rfl, rfl⟩
    · by_cases h2 : y < v
      · have hb : ahdB (x, y) (u, v) = true := decide_eq_true (by dsimp only; omega)
        rw [hb]
        repeat' (first | refine zcp (by kernel_rfl) ?_ | (refine zap rfl ?_; first | refine reg_ne_key true rfl rfl (by rw [decide_eq_false (fun q => h1 q.2)]; rfl) ?_ | refine zaj rfl ?_ | refine zan rfl ?_ | refine zan rfl ?_ | refine zaa 0 rfl rfl rfl ?_ | refine zaa 1 rfl rfl rfl ?_ | refine zbc rfl rfl (by omega) ?_ | refine zbg rfl rfl (by omega) ?_ | refine zbh rfl rfl (by omega) ?_ | refine zbu rfl ?_ | refine zbv rfl ?_ | refine zat rfl rfl (by omega) ?_) | refine zch ?_)
        exact ret_tmp1 rfl ⟨rfl, rfl⟩
      · have hb : ahdB (x, y) (u, v) = false := decide_eq_false (by dsimp only; omega)
        rw [hb]
        repeat' (first | refine zcp (by kernel_rfl) ?_ | (refine zap rfl ?_; first | refine reg_ne_key true rfl rfl (by rw [decide_eq_false (fun q => h1 q.2)]; rfl) ?_ | refine zaj rfl ?_ | refine zan rfl ?_ | refine zan rfl ?_ | refine zaa 0 rfl rfl rfl ?_ | refine zaa 1 rfl rfl rfl ?_ | refine zbc rfl rfl (by omega) ?_ | refine zbh rfl rfl (by omega) ?_ | refine zbu rfl ?_ | refine zbv rfl ?_ | refine zat rfl rfl (by omega) ?_) | refine zch ?_)
        exact ret_tmp1 rfl ⟨rfl, rfl⟩
  · by_cases h2 : x < u
    · have hb : ahdB (x, y) (u, v) = true := decide_eq_true (by dsimp only; omega)
      rw [hb]
      repeat' (first | refine zcp (by kernel_rfl) ?_ | (refine zap rfl ?_; first | refine reg_ne_key true rfl rfl (by rw [decide_eq_false (fun q => h0 q.1)]; rfl) ?_ | refine zaj rfl ?_ | refine zak rfl ?_ | refine zal rfl ?_ | refine zan rfl ?_ | refine zan rfl ?_ | refine zaa 0 rfl rfl rfl ?_ | refine zaa 1 rfl rfl rfl ?_ | refine zbg rfl rfl (by omega) ?_ | refine zbu rfl ?_ | refine zat rfl rfl (by omega) ?_) | refine zch ?_)
      exact ret_tmp1 rfl ⟨rfl, rfl⟩
    · have hb : ahdB (x, y) (u, v) = false := decide_eq_false (by dsimp only; omega)
      rw [hb]
      repeat' (first | refine zcp (by kernel_rfl) ?_ | (refine zap rfl ?_; first | refine reg_ne_key true rfl rfl (by rw [decide_eq_false (fun q => h0 q.1)]; rfl) ?_ | refine zaj rfl ?_ | refine zak rfl ?_ | refine zan rfl ?_ | refine zan rfl ?_ | refine zaa 0 rfl rfl rfl ?_ | refine zaa 1 rfl rfl rfl ?_ | refine zbd rfl rfl (by omega) ?_ | refine zbh rfl rfl (by omega) ?_ | refine zbu rfl ?_ | refine zbv rfl ?_ | refine zat rfl rfl (by omega) ?_) | refine zch ?_)
      exact ret_tmp1 rfl ⟨rfl, rfl⟩
theorem heGet (w0 : World) (p wb : Nat) (H : He) (b : Bool) (a c : Int) : FnG w0 [(wb, hwO p H b 200)] 158 [.pointer (some ⟨wb, 0, none⟩), .int .i64 a, .int .i64 c] p (He.get a c) (.int .i64) := by
  by_cases ha : a = 0
  · intro s hS; have hG := At.start hS; generalize Pg.run _ s = R at hG ⊢
    unfold He.get at hG
    rw [if_pos ha] at hG
    refine fn_of_run en158 fn158 rfl rfl rfl ?_
    repeat' (first | refine zck ?_ | refine zcp (by kernel_rfl) ?_ | (refine zap rfl ?_; first | refine zan rfl ?_ | refine zan rfl ?_ | refine zbc rfl rfl (by omega) ?_) | refine zch ?_ | refine zci rfl ?_)
    rw [hG.done]
    exact ret_tmp1 rfl ⟨rfl, rfl⟩
  · intro s hS
    have hG := (At.start hS).to (Pg.bind_pure _).symm
    generalize Pg.run _ s = R at hG ⊢
    unfold He.get at hG
    rw [if_neg ha] at hG
    refine fn_of_run en158 fn158 rfl rfl rfl ?_
    repeat' (first | refine zck ?_ | refine zcp (by kernel_rfl) ?_ | refine zcm ?_ | (refine zap rfl ?_; first | refine reg_add rfl rfl ?_ | refine zan rfl ?_ | refine zan rfl ?_ | refine zaa 0 rfl rfl rfl ?_ | refine reg_callG [0] hG (getG w0 p _) rfl rfl rfl sub_nil (fun x s hG => ?_) | refine zao rfl ?_ | refine zbd rfl rfl (by omega) ?_ | refine zan rfl ?_) | refine zch ?_ | refine zcj rfl ?_)
    rw [hG.done]
    exact ret_tmp1 rfl ⟨rfl, rfl⟩
theorem hePut (w0 : World) (p wb : Nat) (H : He) (b : Bool) (a c v : Int) : FnG w0 [(wb, hwO p H b 200)] 153 [.pointer (some ⟨wb, 0, none⟩), .int .i64 a, .int .i64 c, .int .i64 v] p (He.put a c v) encU := by
  by_cases ha : a = 0
  · intro s hS; have hG := At.start hS; generalize Pg.run _ s = R at hG ⊢
    unfold He.put at hG
    rw [if_pos ha] at hG
    refine fn_of_run en153 fn153 rfl rfl rfl ?_
    repeat' (first | refine zck ?_ | refine zcp (by kernel_rfl) ?_ | refine zcm ?_ | (refine zap rfl ?_; first | refine zan rfl ?_ | refine zbf rfl rfl (by omega) ?_) | refine zch ?_ | refine zcj rfl ?_)
    rw [hG.done]
    exact end_tmp0 rfl ⟨rfl, rfl⟩
  · intro s hS; have hG := At.start hS; generalize Pg.run _ s = R at hG ⊢
    unfold He.put at hG
    rw [if_neg ha] at hG
    refine fn_of_run en153 fn153 rfl rfl rfl ?_
    repeat' (first | refine zck ?_ | refine zcp (by kernel_rfl) ?_ | (refine zap rfl ?_; first | refine reg_add rfl rfl ?_ | refine zan rfl ?_ | refine zaa 0 rfl rfl rfl ?_ | refine reg_callG [0] hG (putG w0 p _ _) rfl rfl rfl sub_nil (fun u s hG => ?_) | refine zao rfl ?_ | refine zbe rfl rfl (by omega) ?_ | refine zan rfl ?_) | refine zch ?_ | refine zci rfl ?_)
    rw [hG.done]
    exact end_tmp0 rfl ⟨rfl, rfl⟩
theorem heRoot (w0 : World) (p wb : Nat) (H : He) (b : Bool) (c : Int) : FnG w0 [(wb, hwO p H b 200)] 151 [.pointer (some ⟨wb, 0, none⟩), .int .i64 c] p (H.rt c) (.int .i64) := by
  intro s hS
  have hG := (At.start hS).to (Pg.bind_pure _).symm
  generalize Pg.run _ s = R at hG ⊢
  unfold He.rt at hG
  refine fn_of_run en151 fn151 rfl rfl rfl ?_
  repeat' (first | refine zck ?_ | refine zcp (by kernel_rfl) ?_ | refine zcq PP_mixed (by kernel_rfl) (by kernel_rfl) ?_ | (refine zap rfl ?_; first | refine reg_add rfl rfl ?_ | refine zan rfl ?_ | refine zan rfl ?_ | refine zaa 0 rfl rfl rfl ?_ | refine reg_callG [0] hG (getG w0 p _) rfl rfl rfl sub_nil (fun x s hG => ?_) | refine zao rfl ?_ | refine zan rfl ?_) | refine zch ?_)
  rw [hG.done]
  exact ret_tmp1 rfl ⟨rfl, rfl⟩
theorem heAdd (w0 : World) (p wb : Nat) (H : He) (b : Bool) (c n : Int) : FnG w0 [(wb, hwO p H b 200)] 154 [.pointer (some ⟨wb, 0, none⟩), .int .i64 c, .int .i64 n] p (H.add c n) encU := by
  intro s hS; have hG := At.start hS; generalize Pg.run _ s = R at hG ⊢
  unfold He.add at hG
  refine fn_of_run en154 fn154 rfl rfl rfl ?_
  repeat' (first | refine zcq PP_mixed (by kernel_rfl) (by kernel_rfl) ?_ | (refine zap rfl ?_; first | refine reg_add rfl rfl ?_ | refine zan rfl ?_ | refine zaa 0 rfl rfl rfl ?_ | refine reg_callG [0] hG (heRoot w0 p wb H b c) rfl rfl rfl (fun _ h => h) (fun x s hG => ?_) | refine reg_callG [0] hG (putG w0 p _ _) rfl rfl rfl sub_nil (fun u s hG => ?_) | refine zao rfl ?_ | refine zan rfl ?_) | refine zch ?_)
  rw [hG.done]
  exact end_tmp0 rfl ⟨rfl, rfl⟩
theorem heKey (w0 : World) (p wb : Nat) (H : He) (b : Bool) (a : Int) : FnG w0 [(wb, hwO p H b 200)] 274 [.pointer (some ⟨wb, 0, none⟩), .int .i64 a] p (He.key a) (fun k => .agg (List.toArray [.int .i64 k.1, .int .i64 k.2])) := by
  intro s hS; have hG := At.start hS; generalize Pg.run _ s = R at hG ⊢
  unfold He.key at hG
  refine fn_of_run en274 fn274 rfl rfl rfl ?_
  repeat' (first | refine zck ?_ | refine zcp (by kernel_rfl) ?_ | (refine zap rfl ?_; first | refine zan rfl ?_ | refine reg_callG [0] hG (heGet w0 p wb H b a _) rfl rfl rfl (fun _ h => h) (fun x s hG => ?_) | refine zae 1 rfl rfl rfl rfl rfl rfl rfl ?_ | refine zar (fun nb => ?_) | refine reg_buildA rfl ?_) | refine zch ?_)
  rw [hG.done]
  exact run_ret (leaves_nil (ends_take [0] rfl (ends_one rfl (resOk_pt 1 rfl rfl rfl) ⟨rfl, rfl, rfl⟩)))
theorem heGive (w0 : World) (p wb : Nat) (H : He) (hH : H.Ok) (b : Bool) (a : Int) : FnG w0 [(wb, hwO p H b 200)] 279 [.pointer (some ⟨wb, 0, none⟩), .int .i64 a] p (H.give a) (.int .i64) := by
  intro s hS; have hG := At.start hS; generalize Pg.run _ s = R at hG ⊢
  unfold He.give at hG
  refine fn_of_run en279 fn279 rfl rfl rfl ?_
  repeat (first | refine zck ?_ | refine zcl ?_ | refine zcm ?_ | refine zcn ?_)
  first | refine zcp (by kernel_rfl) ?_ | refine zcq PP_mixed (by kernel_rfl) (by kernel_rfl) ?_
  repeat' (refine zap rfl ?_; first | refine zan rfl ?_)
  all_goals refine zch ?_
  all_goals repeat (first | refine zck ?_ | refine zcl ?_ | refine zcm ?_ | refine zcn ?_)
  repeat (first | refine zck ?_ | refine zcl ?_ | refine zcm ?_ | refine zcn ?_)
  first | refine zcp (by kernel_rfl) ?_ | refine zcq PP_mixed (by kernel_rfl) (by kernel_rfl) ?_
  repeat' (refine zap rfl ?_; first | refine zan rfl ?_ | refine zan rfl ?_ | refine zaa 0 rfl rfl rfl ?_ | refine reg_callG [0] hG (giveG w0 p H.pool hH.1 a) rfl rfl rfl sub_nil (fun e s hG => ?_) | refine zao rfl ?_ | refine zan rfl ?_)
  all_goals refine zch ?_
  all_goals repeat (first | refine zck ?_ | refine zcl ?_ | refine zcm ?_ | refine zcn ?_)
  repeat (first | refine zck ?_ | refine zcl ?_ | refine zcm ?_ | refine zcn ?_)
  first | refine zcp (by kernel_rfl) ?_ | refine zcq PP_mixed (by kernel_rfl) (by kernel_rfl) ?_
  repeat' (refine zap rfl ?_; first | refine zan rfl ?_ | refine zbo rfl rfl ?_)
  all_goals refine zch ?_
  all_goals repeat (first | refine zck ?_ | refine zcl ?_ | refine zcm ?_ | refine zcn ?_)
  refine run_cond rfl (fun hE => ?_) (fun hE => ?_)
  · rw [if_pos hE] at hG
    repeat' (first | refine zck ?_ | refine zcp (by kernel_rfl) ?_ | (refine zap rfl ?_; first | refine zan rfl ?_ | refine zan rfl ?_ | refine reg_callG [0] hG (heAdd w0 p wb H b _ _) rfl rfl rfl (fun _ h => h) (fun u s hG => ?_)) | refine zch ?_)
    rw [hG.done]
    exact ret_tmp1 rfl ⟨rfl, rfl⟩
  · rw [if_neg hE] at hG
    repeat' (first | refine zck ?_ | refine zcp (by kernel_rfl) ?_ | refine zcm ?_ | (refine zap rfl ?_; first | refine zan rfl ?_ | refine zan rfl ?_) | refine zch ?_)
    rw [hG.done]
    exact ret_tmp1 rfl ⟨rfl, rfl⟩
theorem heMany (w0 : World) (p wb : Nat) (H : He) (b : Bool) : FnG w0 [(wb, hwO p H b 200)] 150 [.pointer (some ⟨wb, 0, none⟩)] p H.many (fun r => .tuple #[.int .i64 r.1, .bool r.2]) := by
  intro s hS; have hG := At.start hS; generalize Pg.run _ s = R at hG ⊢
  unfold He.many at hG
  refine fn_of_run en150 fn150 rfl rfl rfl ?_
  repeat (first | refine zck ?_ | refine zcl ?_ | refine zcm ?_ | refine zcn ?_)
  first | refine zcp (by kernel_rfl) ?_ | refine zcq PP_mixed (by kernel_rfl) (by kernel_rfl) ?_
  repeat' (refine zap rfl ?_; first | refine zan rfl ?_)
  all_goals refine zch ?_
  all_goals repeat (first | refine zck ?_ | refine zcl ?_ | refine zcm ?_ | refine zcn ?_)
  repeat (first | refine zck ?_ | refine zcl ?_ | refine zcm ?_ | refine zcn ?_)
  first | refine zcp (by kernel_rfl) ?_ | refine zcq PP_mixed (by kernel_rfl) (by kernel_rfl) ?_
  repeat' (refine zap rfl ?_; first | refine zan rfl ?_ | refine zan rfl ?_ | refine reg_callG [0] hG (heRoot w0 p wb H b 0) rfl rfl rfl (fun _ h => h) (fun x s hG => ?_))
  all_goals refine zch ?_
  all_goals repeat (first | refine zck ?_ | refine zcl ?_ | refine zcm ?_ | refine zcn ?_)
  rw [hG.done]
  by_cases h0 : 0 ≤ x
  · by_cases h1 : x ≤ 32
    · repeat' (first | refine zcp (by kernel_rfl) ?_ | (refine zap rfl ?_; first | refine zaj rfl ?_ | refine zan rfl ?_ | refine zan rfl ?_ | refine zbi rfl rfl (by omega) ?_ | refine zbm rfl rfl (by omega) ?_ | refine zbu rfl ?_) | refine zch ?_)
      exact ret_tmp2 rfl ⟨by rw [decide_eq_true (And.intro h0 h1)]; rfl, rfl⟩
    · repeat' (first | refine zcp (by kernel_rfl) ?_ | (refine zap rfl ?_; first | refine zaj rfl ?_ | refine zan rfl ?_ | refine zan rfl ?_ | refine zbj rfl rfl (by omega) ?_ | refine zbm rfl rfl (by omega) ?_ | refine zbu rfl ?_) | refine zch ?_)
      exact ret_tmp2 rfl ⟨by rw [decide_eq_false (fun q : 0 ≤ x ∧ x ≤ 32 => h1 q.2)]; rfl, rfl⟩
  · repeat' (first | refine zcp (by kernel_rfl) ?_ | (refine zap rfl ?_; first | refine zak rfl ?_ | refine zan rfl ?_ | refine zan rfl ?_ | refine zbn rfl rfl (by omega) ?_ | refine zbv rfl ?_) | refine zch ?_)
    exact ret_tmp2 rfl ⟨by rw [decide_eq_false (fun q : 0 ≤ x ∧ x ≤ 32 => h0 q.1)]; rfl, rfl⟩
end Go.Proofs.YtgdhcgnmffgkiaaGreatDoor

namespace Sim
open Go Go.Vc
end Sim
namespace Go.Proofs.YtgdhcgnmffgkiaaGreatDoor
open Go.Vc Sim
set_option maxHeartbeats 4000000
abbrev teV (T : Te) : Value := .agg (List.toArray [.int .i64 T.pool.root, .int .i64 T.pool.frm, .int .i64 T.pool.nodes, .int .i64 T.root])
section
variable {w0 : World} {n : Nat} {sh : Shared} {Q : Exit → Env → List Deferred → List Asn → Prop} {k : List Item} {ρ : Env} {df : List Deferred} {Γ Γr : List Asn}
variable {ops : Array Oper} {l : List (Fl × Nat × Oper)} {i : Nat} {ty : TypeId} {pos : String} {aft : Array Edge} {dst : Option Tmp}
variable {f : FuncId} {args : List Value} {fo : Operand} {cargs : Array Operand} {ats : Array TypeId} {first cap : Array Value}
end
theorem teLen (w0 : World) (p : Nat) (T : Te) : FnG w0 [] 72 [teV T, spP p] p T.len (.int .i64) := by
  intro s hS; have hG := At.start hS; generalize Pg.run _ s = R at hG ⊢
  unfold Te.len at hG
  have hG := hG.to (Pg.bind_pure _).symm
  refine fn_of_run en72 fn72 rfl rfl rfl ?_
  repeat (first | refine zck ?_ | refine zcl ?_ | refine zcm ?_ | refine zcn ?_)
  first | refine zcp (by kernel_rfl) ?_ | refine zcq PP_mixed (by kernel_rfl) (by kernel_rfl) ?_
  repeat' (refine zap rfl ?_; first | refine zan rfl ?_ | refine zaq (cs := [_, _, _, _]) rfl (fun nb => ?_))
  all_goals refine zch ?_
  all_goals repeat (first | refine zck ?_ | refine zcl ?_ | refine zcm ?_ | refine zcn ?_)
  refine run_share [1] rfl ?_
  repeat' (first | refine zcp (by kernel_rfl) ?_ | (refine zap rfl ?_; first | refine reg_add rfl rfl ?_ | refine zan rfl ?_ | refine zan rfl ?_ | refine zaa 0 rfl rfl rfl ?_ | refine reg_callG [0] hG (getG w0 p _) rfl rfl rfl sub_nil (fun x s hG => ?_) | refine zao rfl ?_) | refine zch ?_)
  rw [hG.done]
  exact ret_tmp1 rfl ⟨rfl, rfl⟩
end Go.Proofs.YtgdhcgnmffgkiaaGreatDoor

namespace Go.Proofs.YtgdhcgnmffgkiaaGreatDoor
open Go.Vc Sim
set_option maxHeartbeats 4000000
end Go.Proofs.YtgdhcgnmffgkiaaGreatDoor

namespace Sim
open Go Go.Vc
structure Gh where
  pool : Pl
  root : Int
def Gh.Ok (G : Gh) : Prop := G.pool.Ok ∧ 0 ≤ G.root ∧ G.root ≤ 4096
structure GL where
  head : Int
  nx : Int
  pv : Int
namespace Gh
variable (G : Gh)
def nd (n : Int) : Bool := G.pool.node n
def all : GL := ⟨w64 (G.root + 0), 2, 3⟩
def out (v : Int) : GL := ⟨w64 (v + 4), 4, 5⟩
def inn (v : Int) : GL := ⟨w64 (v + 5), 6, 7⟩
def vm : Int := -1 - 2 * G.root
def em : Int := -2 - 2 * G.root
def more (a n : Int) : Pg Unit := do
  let v ← Pg.gt a
  let _ ← Pg.pt a (w64 (v + n))
  pure ()
def vertex (n : Int) : Pg Bool :=
  if G.nd n = true then do
    let v ← Pg.gt (w64 (n + 0))
    pure (decide (v = G.vm))
  else pure false
def edge (n : Int) : Pg Bool :=
  if G.nd n = true then do
    let v ← Pg.gt (w64 (n + 0))
    pure (decide (v = G.em))
  else pure false
def link (l : GL) (n : Int) : Pg Int := do
  let was ← Pg.gt l.head
  let _ ← Pg.pt (w64 (n + l.nx)) was
  let _ ← Pg.pt (w64 (n + l.pv)) 0
  let _ ← Pg.pt l.head n
  if was = 0 then pure 0 else
  if G.nd was = true then do
    let _ ← Pg.pt (w64 (was + l.pv)) n
    pure 0
  else pure 24
def unlinkB (l : GL) (a b : Int) : Pg Int :=
  if b = 0 then pure 0 else
  if G.nd b = true then do
    let _ ← Pg.pt (w64 (b + l.pv)) a
    pure 0
  else pure 24
def unlink (l : GL) (n : Int) : Pg Int := do
  let a ← Pg.gt (w64 (n + l.pv))
  let b ← Pg.gt (w64 (n + l.nx))
  if a = 0 then do
    let _ ← Pg.pt l.head b
    G.unlinkB l a b
  else if G.nd a = true then do
    let _ ← Pg.pt (w64 (a + l.nx)) b
    G.unlinkB l a b
  else pure 24
def after (m : Nat) (r : Int × Int) : Pg (Int × Int) := if r.2 ≠ 0 then do
    let _ ← Pg.bk m
    pure r
  else pure r
def afterE (m : Nat) (e : Int) : Pg Int := if e ≠ 0 then do
    let _ ← Pg.bk m
    pure e
  else pure e
def addIn (name : Int) : Pg (Int × Int) := do
  let t ← G.pool.takeP
  if t.2 ≠ 0 then pure (0, t.2) else do
    let _ ← Pg.pt (w64 (t.1 + 0)) G.vm
    let _ ← Pg.pt (w64 (t.1 + 1)) name
    let _ ← Pg.pt (w64 (t.1 + 4)) 0
    let _ ← Pg.pt (w64 (t.1 + 5)) 0
    let _ ← Pg.pt (w64 (t.1 + 6)) 0
    let _ ← Pg.pt (w64 (t.1 + 7)) 0
    let e ← G.link G.all t.1
    if e ≠ 0 then pure (0, e) else do
      let _ ← more (w64 (G.root + 1)) 1
      let _ ← more (w64 (G.root + 7)) 1
      pure (t.1, 0)
def add (name : Int) : Pg (Int × Int) := do
  let m ← Pg.mk
  let r ← G.addIn name
  after m r
def thr {β : Type} (l : GL) (f : β → Int → Pg (β × Bool)) : Nat → Int → β → Pg (β × Int × Bool)
  | 0, n, acc => if n = 0 then pure (acc, 0, false) else pure (acc, 24, false)
  | k + 1, n, acc =>
    if n = 0 then pure (acc, 0, false) else
    if G.nd n = true then do
      let r ← f acc n
      if r.2 = true then do
        let m ← Pg.gt (w64 (n + l.nx))
        thr l f k m r.1
      else pure (r.1, 0, true)
    else pure (acc, 24, false)
def through {β : Type} (l : GL) (f : β → Int → Pg (β × Bool)) (acc : β) : Pg (β × Int × Bool) := do
  let n ← Pg.gt l.head
  G.thr l f G.pool.nodes.toNat n acc
def findF (b : Int) (acc n : Int) : Pg (Int × Bool) := do
  let x ← Pg.gt (w64 (n + 2))
  pure (if x = b then (n, false) else (acc, true))
def find (a b : Int) : Pg (Int × Int) := do
  let r ← G.through (out a) (findF b) 0
  pure (if r.2.2 = true then (r.1, 0) else (0, r.2.1))
def cutN (n : Int) : Pg Int := do
  let a ← Pg.gt (w64 (n + 1))
  let b ← Pg.gt (w64 (n + 2))
  if G.nd a = true ∧ G.nd b = true then do
    let e ← G.unlink (out a) n
    if e ≠ 0 then pure e else do
      let e ← G.unlink (inn b) n
      if e ≠ 0 then pure e else do
        let _ ← more (w64 (a + 6)) (-1)
        let _ ← more (w64 (b + 7)) (-1)
        let _ ← more (w64 (G.root + 2)) (-1)
        let _ ← more (w64 (G.root + 7)) (-1)
        G.pool.giveP n
  else pure 24
def cut (n : Int) : Pg Int := do
  let m ← Pg.mk
  let is ← G.edge n
  if is = true then do
    let e ← G.cutN n
    afterE m e
  else afterE m 10
def emptyK (l : GL) : Nat → Pg Int
  | 0 => do
    let n ← Pg.gt l.head
    if n = 0 then pure 0 else pure 24
  | k + 1 => do
    let n ← Pg.gt l.head
    if n = 0 then pure 0 else
    if G.nd n = true then do
      let e ← G.cutN n
      if e ≠ 0 then pure e else emptyK l k
    else pure 24
def empty (l : GL) : Pg Int := G.emptyK l (G.pool.nodes.toNat + 1)
def dropEnd (n v : Int) : Pg (Int × Int) := do
  let e ← G.unlink G.all n
  if e ≠ 0 then pure (0, e) else do
    let _ ← more (w64 (G.root + 1)) (-1)
    let _ ← more (w64 (G.root + 7)) (-1)
    let e ← G.pool.giveP n
    if e ≠ 0 then pure (0, e) else pure (v, 0)
def dropIn (n : Int) : Pg (Int × Int) := do
  let is ← G.vertex n
  if is = true then do
    let v ← Pg.gt (w64 (n + 1))
    let e ← G.empty (out n)
    if e ≠ 0 then pure (0, e) else do
      let e ← G.empty (inn n)
      if e ≠ 0 then pure (0, e) else G.dropEnd n v
  else pure (0, 10)
def drop (n : Int) : Pg (Int × Int) := do
  let m ← Pg.mk
  let r ← G.dropIn n
  after m r
def vertsF (acc : List Int) (n : Int) : Pg (List Int × Bool) := pure (acc ++ [n], true)
def verts : Pg (List Int × Int) := do
  let r ← G.through G.all vertsF []
  pure (if r.2.1 ≠ 0 then ([], r.2.1) else (r.1, 0))
def edges : Pg Int := Pg.gt (w64 (G.root + 2))
end Gh
namespace Gh
open Pg
variable (G : Gh)
theorem bd_more (a n : Int) : Bd 1 (more a n) := by unfold more; repeat' first | exact bd_pure _ | with_reducible refine bd_ite ?_ ?_ | with_reducible refine bd_then (bd_gt0 _) ?_ (by decide) | with_reducible refine bd_then (bd_pt _ _) ?_ (by decide) | with_reducible refine bd_then bd_mk0 ?_ (by decide) | with_reducible refine bd_then (bd_bk0 _) ?_ (by decide) | intro _
theorem bd_vertex (n : Int) : Bd 0 (G.vertex n) := by unfold vertex; repeat' first | exact bd_pure _ | with_reducible refine bd_ite ?_ ?_ | with_reducible refine bd_then (bd_gt0 _) ?_ (by decide) | with_reducible refine bd_then (bd_pt _ _) ?_ (by decide) | with_reducible refine bd_then bd_mk0 ?_ (by decide) | with_reducible refine bd_then (bd_bk0 _) ?_ (by decide) | intro _
theorem bd_link (l : GL) (n : Int) : Bd 4 (G.link l n) := by unfold link; repeat' first | exact bd_pure _ | with_reducible refine bd_ite ?_ ?_ | with_reducible refine bd_then (bd_gt0 _) ?_ (by decide) | with_reducible refine bd_then (bd_pt _ _) ?_ (by decide) | with_reducible refine bd_then bd_mk0 ?_ (by decide) | with_reducible refine bd_then (bd_bk0 _) ?_ (by decide) | intro _
theorem bd_unlinkB (l : GL) (a b : Int) : Bd 1 (G.unlinkB l a b) := by unfold unlinkB; repeat' first | exact bd_pure _ | with_reducible refine bd_ite ?_ ?_ | with_reducible refine bd_then (bd_gt0 _) ?_ (by decide) | with_reducible refine bd_then (bd_pt _ _) ?_ (by decide) | with_reducible refine bd_then bd_mk0 ?_ (by decide) | with_reducible refine bd_then (bd_bk0 _) ?_ (by decide) | intro _
theorem bd_unlink (l : GL) (n : Int) : Bd 2 (G.unlink l n) := by
  unfold unlink
  have h := fun a b => G.bd_unlinkB l a b
  repeat' first | exact (h _ _).mono (by decide) | exact bd_pure _ | with_reducible refine bd_ite ?_ ?_ | with_reducible refine bd_then (bd_gt0 _) ?_ (by decide) | with_reducible refine bd_then (bd_pt _ _) ?_ (by decide) | with_reducible refine bd_then bd_mk0 ?_ (by decide) | with_reducible refine bd_then (bd_bk0 _) ?_ (by decide) | intro _
theorem bd_after (m : Nat) (r : Int × Int) : Bd 0 (after m r) := by unfold after; repeat' first | exact bd_pure _ | with_reducible refine bd_ite ?_ ?_ | with_reducible refine bd_then (bd_gt0 _) ?_ (by decide) | with_reducible refine bd_then (bd_pt _ _) ?_ (by decide) | with_reducible refine bd_then bd_mk0 ?_ (by decide) | with_reducible refine bd_then (bd_bk0 _) ?_ (by decide) | intro _
theorem bd_thr {β : Type} (l : GL) (f : β → Int → Pg (β × Bool)) (hf : ∀ a n, Bd 0 (f a n)) : ∀ (k : Nat) (n : Int) (acc : β), Bd 0 (G.thr l f k n acc)
  | 0, n, acc => by unfold thr; repeat' first | exact bd_pure _ | with_reducible refine bd_ite ?_ ?_ | with_reducible refine bd_then (bd_gt0 _) ?_ (by decide) | with_reducible refine bd_then (bd_pt _ _) ?_ (by decide) | with_reducible refine bd_then bd_mk0 ?_ (by decide) | with_reducible refine bd_then (bd_bk0 _) ?_ (by decide) | intro _
  | k + 1, n, acc => by
    unfold thr
    refine bd_ite (bd_pure _) (bd_ite ?_ (bd_pure _))
    refine bd_seq (hf acc n) (j := 0) (fun r => bd_ite ?_ (bd_pure _)) (by decide)
    exact bd_seq (bd_gt0 _) (fun m => bd_thr l f hf k m r.1) (by decide)
theorem bd_through {β : Type} (l : GL) (f : β → Int → Pg (β × Bool)) (hf : ∀ a n, Bd 0 (f a n)) (acc : β) : Bd 0 (G.through l f acc) := bd_seq (bd_gt0 _) (fun n => G.bd_thr _ _ hf _ n _) (by decide)
theorem thr_go {β : Type} (l : GL) (f : β → Int → Pg (β × Bool)) (hf : ∀ a n s, (Pg.run (f a n) s).1.2 = true) : ∀ (k : Nat) (n : Int) (acc : β) (s : Sp), (Pg.run (G.thr l f k n acc) s).1.2.2 = false
  | 0, n, acc, s => by unfold thr; split <;> rfl
  | k + 1, n, acc, s => by
    unfold thr
    split
    · rfl
    split
    · rw [Pg.run_bind, if_pos (hf _ _ _), Pg.run_bind]
      exact thr_go l f hf k _ _ _
    · rfl
theorem through_go {β : Type} (l : GL) (f : β → Int → Pg (β × Bool)) (hf : ∀ a n s, (Pg.run (f a n) s).1.2 = true) (acc : β) (s : Sp) : (Pg.run (G.through l f acc) s).1.2.2 = false := by
  unfold through; rw [Pg.run_bind]; exact G.thr_go l f hf _ _ _ _
theorem bd_findF (b acc n : Int) : Bd 0 (findF b acc n) := by unfold findF; repeat' first | exact bd_pure _ | with_reducible refine bd_ite ?_ ?_ | with_reducible refine bd_then (bd_gt0 _) ?_ (by decide) | with_reducible refine bd_then (bd_pt _ _) ?_ (by decide) | with_reducible refine bd_then bd_mk0 ?_ (by decide) | with_reducible refine bd_then (bd_bk0 _) ?_ (by decide) | intro _
theorem bd_find (a b : Int) : Bd 0 (G.find a b) := bd_seq (j := 0) (G.bd_through _ _ (bd_findF b) _) (fun _ => bd_pure _) (by decide)
theorem bd_addIn (name : Int) : Bd 14 (G.addIn name) := by unfold addIn; repeat' first | with_reducible refine bd_then (bd_more _ _) ?_ (by decide) | with_reducible refine bd_then (bd_vertex _ _) ?_ (by decide) | with_reducible refine bd_then (bd_takeP _) ?_ (by decide) | with_reducible refine bd_then (bd_link _ _ _) ?_ (by decide) | with_reducible refine bd_then (bd_unlink _ _ _) ?_ (by decide) | with_reducible refine bd_then (bd_find _ _ _) ?_ (by decide) | with_reducible refine bd_then (bd_giveP _ _) ?_ (by decide) | exact bd_pure _ | with_reducible refine bd_ite ?_ ?_ | with_reducible refine bd_then (bd_gt0 _) ?_ (by decide) | with_reducible refine bd_then (bd_pt _ _) ?_ (by decide) | with_reducible refine bd_then bd_mk0 ?_ (by decide) | with_reducible refine bd_then (bd_bk0 _) ?_ (by decide) | intro _
theorem bd_add (name : Int) : Bd 14 (G.add name) := by unfold add; repeat' first | with_reducible refine bd_then (bd_addIn _ _) ?_ (by decide) | exact (bd_after _ _).mono (by decide) | exact bd_pure _ | with_reducible refine bd_ite ?_ ?_ | with_reducible refine bd_then (bd_gt0 _) ?_ (by decide) | with_reducible refine bd_then (bd_pt _ _) ?_ (by decide) | with_reducible refine bd_then bd_mk0 ?_ (by decide) | with_reducible refine bd_then (bd_bk0 _) ?_ (by decide) | intro _
end Gh
end Sim

namespace Go.Proofs.YtgdhcgnmffgkiaaGreatDoor
open Go.Vc Sim
set_option maxHeartbeats 4000000
abbrev ghV (G : Gh) : Value := .agg (List.toArray [.int .i64 G.pool.root, .int .i64 G.pool.frm, .int .i64 G.pool.nodes, .int .i64 G.root])
abbrev glV (l : GL) : Value := .agg (List.toArray [.int .i64 l.head, .int .i64 l.nx, .int .i64 l.pv])
theorem ghNode (w0 : World) (G : Gh) (hG : G.Ok) (n : Int) : FnE PP w0 [] 281 [ghV G, .int .i64 n] [] (.bool (G.nd n)) [] := by
  have kn := node_spec w0 G.pool hG.1 n
  refine fn_of_run en281 fn281 rfl rfl rfl ?_
  repeat (first | refine zck ?_ | refine zcl ?_ | refine zcm ?_ | refine zcn ?_)
  first | refine zcp (by kernel_rfl) ?_ | refine zcq PP_mixed (by kernel_rfl) (by kernel_rfl) ?_
  repeat' (refine zap rfl ?_; first | refine zan rfl ?_ | refine zaq (cs := [_, _, _, _]) rfl (fun nb => ?_))
  all_goals refine zch ?_
  all_goals repeat (first | refine zck ?_ | refine zcl ?_ | refine zcm ?_ | refine zcn ?_)
  refine run_share [0] rfl ?_
  repeat' (first | refine zck ?_ | refine zcp (by kernel_rfl) ?_ | (refine zap rfl ?_; first | refine zan rfl ?_ | refine zan rfl ?_ | refine zaa 0 rfl rfl rfl ?_ | refine zah [] kn rfl rfl rfl sub_nil rfl ?_ | refine zao rfl ?_ | refine zan rfl ?_) | refine zch ?_)
  exact ret_tmp1 rfl ⟨rfl, rfl⟩
theorem ghAll (w0 : World) (G : Gh) : FnE PP w0 [] 173 [ghV G] [] (glV G.all) [] := by
  refine fn_of_run en173 fn173 rfl rfl rfl ?_
  repeat (first | refine zck ?_ | refine zcl ?_ | refine zcm ?_ | refine zcn ?_)
  first | refine zcp (by kernel_rfl) ?_ | refine zcq PP_mixed (by kernel_rfl) (by kernel_rfl) ?_
  repeat' (refine zap rfl ?_; first | refine zar (fun t2 => ?_) | refine zaq (cs := [_, _, _, _]) rfl (fun nb => ?_))
  all_goals refine zch ?_
  all_goals repeat (first | refine zck ?_ | refine zcl ?_ | refine zcm ?_ | refine zcn ?_)
  refine run_share [0] rfl ?_
  repeat' (first | refine zcp (by kernel_rfl) ?_ | (refine zap rfl ?_; first | refine reg_add rfl rfl ?_ | refine zaa 0 rfl rfl rfl ?_ | refine zao rfl ?_ | refine zae 0 rfl rfl rfl rfl rfl rfl rfl ?_ | refine zcb rfl ?_) | refine zch ?_)
  exact run_ret (leaves_nil (ends_take [] rfl (ends_one rfl (resOk_pt 0 rfl rfl rfl) ⟨rfl, rfl, rfl⟩)))
theorem ghAt (w0 : World) (n c : Int) : FnE PP w0 [] 171 [.int .i64 n, .int .i64 c] [] (.int .i64 (w64 (n + c))) [] := by
  refine fn_of_run en171 fn171 rfl rfl rfl ?_
  repeat' (first | refine zck ?_ | refine zcp (by kernel_rfl) ?_ | (refine zap rfl ?_; first | refine reg_add rfl rfl ?_ | refine zan rfl ?_ | refine zan rfl ?_) | refine zch ?_)
  exact ret_tmp1 rfl ⟨rfl, rfl⟩
end Go.Proofs.YtgdhcgnmffgkiaaGreatDoor

namespace Go.Proofs.YtgdhcgnmffgkiaaGreatDoor
open Go.Vc Sim
set_option maxHeartbeats 4000000
abbrev shP (p b : Nat) : Nat × Obj := (b, .cells (List.toArray [spP p]) 24 (0, 0))
abbrev shL (l : GL) (b : Nat) : Nat × Obj := (b, .cells (List.toArray [.int .i64 l.head, .int .i64 l.nx, .int .i64 l.pv]) 228 (0, 0))
abbrev shG (G : Gh) (b : Nat) : Nat × Obj := (b, .cells (List.toArray [.int .i64 G.pool.root, .int .i64 G.pool.frm, .int .i64 G.pool.nodes, .int .i64 G.root]) 130 (0, 0))
abbrev shE (eb b : Nat) : Nat × Obj := (b, .cells (List.toArray [.pointer (some ⟨eb, 0, none⟩)]) 153 (0, 0))
abbrev ptS (x : Nat × Obj) : Asn := pt x.1 x.2
theorem ghThrough (w0 : World) (p eb : Nat) (G : Gh) (l : GL) : Vc.Fn PP w0 [] 185 [ghV G, spP p, glV l, .pointer (some ⟨eb, 0, none⟩)] [] (fun v Γ => ∃ b1 b2 b3 b4, v = .func (.func 282) #[] #[.pointer (some ⟨b1, 0, none⟩), .pointer (some ⟨b2, 0, none⟩), .pointer (some ⟨b3, 0, none⟩), .pointer (some ⟨b4, 0, none⟩)] ∧
    Γ = [ptS (shG G b3), ptS (shP p b1), ptS (shL l b2), ptS (shE eb b4)]) := by
  refine fn_of_run en185 fn185 rfl rfl rfl ?_
  repeat (first | refine zck ?_ | refine zcl ?_ | refine zcm ?_ | refine zcn ?_)
  first | refine zcp (by kernel_rfl) ?_ | refine zcq PP_mixed (by kernel_rfl) (by kernel_rfl) ?_
  repeat' (refine zap rfl ?_; first | refine zan rfl ?_ | refine zaq (cs := [_]) rfl (fun nb => ?_) | refine zaq (cs := [_, _, _]) rfl (fun nb => ?_) | refine zaq (cs := [_, _, _, _]) rfl (fun nb => ?_))
  all_goals refine zch ?_
  all_goals repeat (first | refine zck ?_ | refine zcl ?_ | refine zcm ?_ | refine zcn ?_)
  repeat' (first | refine zcp (by kernel_rfl) ?_ | (refine zap rfl ?_; first | refine zan rfl ?_ | refine zan rfl ?_) | refine zch ?_)
  exact ret_tmp1 rfl ⟨_, _, _, _, rfl, rfl⟩
def RY (p : Nat) {β : Type} (φ : Nat → β → Prop) (f : β → Int → Pg (β × Bool)) (A X : β → Asn) (x : {x : β × Int × Sp // Pg.Fits (f x.1 x.2.1) x.2.2 ∧ ∃ i, i < 128 ∧ φ i x.1}) (jump : Option Code) (Γ : List Asn) : Prop :=
  jump = (if (Pg.run (f x.1.1 x.1.2.1) x.1.2.2).1.2 = true then none else some .ret) ∧
  Γ = [SpaceA p (Pg.run (f x.1.1 x.1.2.1) x.1.2.2).2, if (Pg.run (f x.1.1 x.1.2.1) x.1.2.2).1.2 = true then A (Pg.run (f x.1.1 x.1.2.1) x.1.2.2).1.1 else X (Pg.run (f x.1.1 x.1.2.1) x.1.2.2).1.1]
theorem ghThrough1 (w0 : World) (p eb : Nat) (G : Gh) (hK : G.Ok) (l : GL) (sh : Shared) (b1 b2 b3 b4 : Nat) {β : Type} (f : β → Int → Pg (β × Bool)) (A X : β → Asn) (φ : Nat → β → Prop) (hφ : ∀ i acc n s, i < 128 → φ i acc → (Pg.run (f acc n) s).1.2 = true → φ (i + 1) (Pg.run (f acc n) s).1.1) (L : Nat) (lp : Option Code → Asn)
    (hY : ∀ x : {x : β × Int × Sp // Pg.Fits (f x.1 x.2.1) x.2.2 ∧ ∃ i, i < 128 ∧ φ i x.1}, Yld PP w0 (shP p b1 :: shL l b2 :: shG G b3 :: shE eb b4 :: sh) L [.int .i64 x.1.2.1] (lp none :: [SpaceA p x.1.2.2, A x.1.1])
      (fun b Γ' => ∃ jump Γ'', b = jump.isNone ∧ RY p φ f A X x jump Γ'' ∧ Γ' = lp jump :: Γ'')) (acc : β) (h0 : φ 0 acc) (s : Sp) (hS : Pg.Fits (G.through l f acc) s) :
    Vc.Fn PP w0 (shP p b1 :: shL l b2 :: shG G b3 :: shE eb b4 :: sh) 282 [.func (.yield L) #[] #[], .pointer (some ⟨b1, 0, none⟩), .pointer (some ⟨b2, 0, none⟩), .pointer (some ⟨b3, 0, none⟩), .pointer (some ⟨b4, 0, none⟩)]
      [lp none, SpaceA p s, A acc, erV eb 0]
      (fun _ Γ' => Γ' = [lp (if (Pg.run (G.through l f acc) s).1.2.2 = true then some .ret else none), SpaceA p (Pg.run (G.through l f acc) s).2, if (Pg.run (G.through l f acc) s).1.2.2 = true then X (Pg.run (G.through l f acc) s).1.1 else A (Pg.run (G.through l f acc) s).1.1, erV eb (Pg.run (G.through l f acc) s).1.2.1]) := by
  have hG := At.start hS
  generalize Pg.run _ s = R at hG ⊢
  unfold Gh.through at hG
  refine fn_of_run en282 fn282 rfl rfl rfl ?_
  repeat (first | refine zck ?_ | refine zcl ?_ | refine zcm ?_ | refine zcn ?_)
  first | refine zcp (by kernel_rfl) ?_ | refine zcq PP_mixed (by kernel_rfl) (by kernel_rfl) ?_
  repeat' (refine zap rfl ?_; first | refine zan rfl ?_)
  all_goals refine zch ?_
  all_goals repeat (first | refine zck ?_ | refine zcl ?_ | refine zcm ?_ | refine zcn ?_)
  repeat (first | refine zck ?_ | refine zcl ?_ | refine zcm ?_ | refine zcn ?_)
  first | refine zcp (by kernel_rfl) ?_ | refine zcq PP_mixed (by kernel_rfl) (by kernel_rfl) ?_
  repeat' (refine zap rfl ?_; first | refine zan rfl ?_ | refine zaa 0 rfl rfl rfl ?_ | refine zaa 1 rfl rfl rfl ?_ | refine reg_callG [1] hG (getG w0 p _) rfl rfl rfl sub_nil (fun n s hG => ?_) | refine zao rfl ?_)
  all_goals refine zch ?_
  all_goals repeat (first | refine zck ?_ | refine zcl ?_ | refine zcm ?_ | refine zcn ?_)
  repeat (first | refine zck ?_ | refine zcl ?_ | refine zcm ?_ | refine zcn ?_ | refine zco ?_)
  obtain ⟨⟨hp1, hp2, hp3, hp4, hp5, hp6, hp7⟩, _, _⟩ := id hK
  refine run_loop (S := Int × Nat × β × Sp) (fun v => [(0, .func (.yield L) #[] #[]), (1, .pointer (some ⟨b1, 0, none⟩)), (2, .pointer (some ⟨b2, 0, none⟩)), (3, .pointer (some ⟨b3, 0, none⟩)), (4, .pointer (some ⟨b4, 0, none⟩)), (6, .int .i64 (G.pool.nodes - v.2.1)), (7, .int .i64 v.1)])
    (fun v Γ => Γ = [SpaceA p v.2.2.2, lp none, A v.2.2.1, erV eb 0] ∧ At R (G.thr l f v.2.1 v.1 v.2.2.1) v.2.2.2 ∧ v.2.1 ≤ G.pool.nodes.toNat ∧ φ (G.pool.nodes.toNat - v.2.1) v.2.2.1) (fun v => v.2.1) (n, G.pool.nodes.toNat, acc, s) ⟨rfl, rfl, rfl, rfl, rfl, by show Value.int .i64 0 = _; congr 1; dsimp only; omega, rfl, trivial⟩ ⟨rfl, hG, Nat.le_refl _, by dsimp only; rw [Nat.sub_self]; exact h0⟩ ?_
  rintro ⟨n, k, acc, s⟩ Γ junk ⟨rfl, hG, hle, hph⟩
  dsimp only at hG hle hph ⊢
  by_cases hn : n = 0
  · have hG : At R (Pg.ret (acc, 0, false)) s := by cases k <;> rw [Gh.thr, if_pos hn] at hG <;> exact hG
    rw [hG.done]
    repeat (first | refine zck ?_ | refine zcl ?_ | refine zcm ?_ | refine zcn ?_)
    first | refine zcp (by kernel_rfl) ?_ | refine zcq PP_mixed (by kernel_rfl) (by kernel_rfl) ?_
    repeat' (refine zap rfl ?_; first | refine zan rfl ?_ | refine zbf rfl rfl (by omega) ?_)
    all_goals refine zch ?_
    all_goals repeat (first | refine zck ?_ | refine zcl ?_ | refine zcm ?_ | refine zcn ?_)
    refine zcj rfl ?_
    refine cut_exit rfl rfl ?_
    exact run_nil (leaves_nil (ends_take [1, 0, 0, 0] rfl (ends_none rfl ⟨rfl, by first | rfl | simp⟩)))
  have kn := ghNode w0 G hK n
  cases hN : G.nd n with
  | false =>
    have hG : At R (Pg.ret (acc, 24, false)) s := by cases k <;> rw [Gh.thr, if_neg hn] at hG <;> first | exact hG | (rw [hN, if_neg (by decide)] at hG; exact hG)
    rw [hN] at kn
    rw [hG.done]
    repeat' (first | refine zck ?_ | refine zcp (by kernel_rfl) ?_ | refine zcm ?_ | refine zcl ?_ | (refine zap rfl ?_; first | refine zbx rfl ?_ | refine zak rfl ?_ | refine zan rfl ?_ | refine zan rfl ?_ | refine zaa 2 rfl rfl rfl ?_ | refine zaa 3 rfl rfl rfl ?_ | refine zah [] kn rfl rfl rfl sub_nil rfl ?_ | refine zbe rfl rfl (by omega) ?_ | refine zau rfl rfl (by omega) ?_ | refine zbu rfl ?_ | refine zae 3 rfl rfl rfl rfl rfl rfl rfl ?_ | refine zan rfl ?_) | refine zch ?_ | refine zci rfl ?_)
    exact cut_ret (leaves_nil (ends_take [1, 0, 0, 0] rfl (ends_none rfl ⟨rfl, by first | rfl | simp⟩)))
  | true =>
  cases k with
  | zero =>
    rw [Gh.thr, if_neg hn] at hG
    rw [hN] at kn
    rw [hG.done]
    repeat' (first | refine zck ?_ | refine zcp (by kernel_rfl) ?_ | refine zcm ?_ | refine zcl ?_ | (refine zap rfl ?_; first | refine zbx rfl ?_ | refine zaj rfl ?_ | refine zan rfl ?_ | refine zan rfl ?_ | refine zaa 2 rfl rfl rfl ?_ | refine zaa 3 rfl rfl rfl ?_ | refine zah [] kn rfl rfl rfl sub_nil rfl ?_ | refine zao rfl ?_ | refine zbe rfl rfl (by omega) ?_ | refine zbk rfl rfl (by omega) ?_ | refine zau rfl rfl (by omega) ?_ | refine zbv rfl ?_ | refine zae 3 rfl rfl rfl rfl rfl rfl rfl ?_ | refine zan rfl ?_) | refine zch ?_ | refine zci rfl ?_)
    exact cut_ret (leaves_nil (ends_take [1, 0, 0, 0] rfl (ends_none rfl ⟨rfl, by first | rfl | simp⟩)))
  | succ k =>
    rw [Gh.thr, if_neg hn, hN, if_pos rfl] at hG
    rw [hN] at kn
    repeat (first | refine zck ?_ | refine zcl ?_ | refine zcm ?_ | refine zcn ?_)
    first | refine zcp (by kernel_rfl) ?_ | refine zcq PP_mixed (by kernel_rfl) (by kernel_rfl) ?_
    repeat' (refine zap rfl ?_; first | refine zan rfl ?_ | refine zbe rfl rfl (by omega) ?_)
    all_goals refine zch ?_
    all_goals repeat (first | refine zck ?_ | refine zcl ?_ | refine zcm ?_ | refine zcn ?_)
    refine zci rfl ?_
    repeat (first | refine zck ?_ | refine zcl ?_ | refine zcm ?_ | refine zcn ?_ | refine zco ?_)
    repeat (first | refine zck ?_ | refine zcl ?_ | refine zcm ?_ | refine zcn ?_)
    first | refine zcp (by kernel_rfl) ?_ | refine zcq PP_mixed (by kernel_rfl) (by kernel_rfl) ?_
    repeat' (refine zap rfl ?_; first | refine zan rfl ?_ | refine zan rfl ?_ | refine zau rfl rfl (by omega) ?_)
    all_goals refine zch ?_
    all_goals repeat (first | refine zck ?_ | refine zcl ?_ | refine zcm ?_ | refine zcn ?_)
    repeat (first | refine zck ?_ | refine zcl ?_ | refine zcm ?_ | refine zcn ?_)
    first | refine zcp (by kernel_rfl) ?_ | refine zcq PP_mixed (by kernel_rfl) (by kernel_rfl) ?_
    repeat' (refine zap rfl ?_; first | refine zbx rfl ?_ | refine zaj rfl ?_ | refine zan rfl ?_ | refine zaa 2 rfl rfl rfl ?_ | refine zah [] kn rfl rfl rfl sub_nil rfl ?_ | refine zao rfl ?_ | refine zbl rfl rfl (by omega) ?_ | refine zbv rfl ?_)
    all_goals refine zch ?_
    all_goals repeat (first | refine zck ?_ | refine zcl ?_ | refine zcm ?_ | refine zcn ?_)
    refine zcj rfl ?_
    repeat (first | refine zck ?_ | refine zcl ?_ | refine zcm ?_ | refine zcn ?_)
    first | refine zcp (by kernel_rfl) ?_ | refine zcq PP_mixed (by kernel_rfl) (by kernel_rfl) ?_
    repeat' (refine zap rfl ?_; first | refine zbx rfl ?_ | refine zan rfl ?_ | refine reg_yield [1, 0, 0] (hY ⟨(acc, n, s), hG.step.1, G.pool.nodes.toNat - (k + 1), by omega, hph⟩) rfl rfl rfl (fun _ h => h) (fun b Γ' ⟨jump, Γ'', q1, ⟨q2, q3⟩, q4⟩ => ?_))
    all_goals refine zch ?_
    all_goals repeat (first | refine zck ?_ | refine zcl ?_ | refine zcm ?_ | refine zcn ?_)
    subst q4; subst q3; subst q2; subst q1
    have hG := hG.step.2
    have hph2 := hφ _ acc n s (by omega) hph
    rw [show G.pool.nodes.toNat - (k + 1) + 1 = G.pool.nodes.toNat - k by omega] at hph2
    dsimp only at hG ⊢
    generalize Pg.run (f acc n) s = q at hG hph2 ⊢
    obtain ⟨⟨acc2, go⟩, s⟩ := q
    dsimp only at hG ⊢
    cases go with
    | false =>
      rw [if_neg (by decide)] at hG
      refine zci rfl ?_
      rw [hG.done]
      exact cut_ret (leaves_nil (ends_none rfl (by simp)))
    | true =>
      rw [if_pos rfl] at hG
      refine zcj rfl ?_
      repeat' (first | refine zcq PP_mixed (by kernel_rfl) (by kernel_rfl) ?_ | refine zcm ?_ | refine zcn ?_ | (refine zap rfl ?_; first | refine zan rfl ?_ | refine zan rfl ?_ | refine zaa 0 rfl rfl rfl ?_ | refine zaa 1 rfl rfl rfl ?_ | refine zah [] (ghAt w0 _ _) rfl rfl rfl sub_nil rfl ?_ | refine reg_callG [1] hG (getG w0 p _) rfl rfl rfl sub_nil (fun m s hG => ?_) | refine zao rfl ?_) | refine zch ?_)
      exact cut_end ⟨rfl, (m, k, acc2, s), ⟨rfl, rfl, rfl, rfl, rfl, by show Value.int .i64 _ = _; congr 1; dsimp only; omega, rfl, trivial⟩, ⟨rfl, hG, by dsimp only; omega, hph2 rfl⟩, Nat.lt_succ_self k⟩
end Go.Proofs.YtgdhcgnmffgkiaaGreatDoor

