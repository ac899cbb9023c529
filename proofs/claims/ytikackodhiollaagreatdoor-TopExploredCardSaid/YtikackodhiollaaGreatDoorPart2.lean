import Derived.Sort.LotD5
import Derived.Test.YtikackodhiollaaGreatDoorPart1
import Derived.Test.YtikackodhiollaaGreatDoorKitA
/- Own work: lemmas of this claim. -/
namespace Go.Proofs.YtikackodhiollaaGreatDoor
variable (w0 : World)
open Go.Vc
open Go.Sort (ltStr swp scanUp scanDown partLoop partition partEqLoop partitionEqual)
theorem up_go {p : List UInt8 → Bool} {d : Array (List UInt8)} {j i : Nat} (h : i ≤ j) (hp : p d[i]! = true) : scanUp p d j i = scanUp p d j (i + 1) := by
 rw [scanUp, if_pos (by simp only [hp, Bool.and_true, decide_eq_true_eq]; exact h)]
theorem up_stop {p : List UInt8 → Bool} {d : Array (List UInt8)} {j i : Nat} (h : i ≤ j → p d[i]! = false) : scanUp p d j i = i := by
 rw [scanUp, if_neg]
 simp only [Bool.and_eq_true, decide_eq_true_eq, not_and, Bool.not_eq_true]; exact h
theorem down_go {p : List UInt8 → Bool} {d : Array (List UInt8)} {i j : Nat} (h : i ≤ j + 1) (hp : p d[j + 1]! = true) : scanDown p d i (j + 1) = scanDown p d i j := by
 rw [scanDown, if_pos (by simp only [hp, Bool.and_true, decide_eq_true_eq]; exact h)]
theorem down_stop {p : List UInt8 → Bool} {d : Array (List UInt8)} {i j : Nat} (h : 0 < j → i ≤ j → p d[j]! = false) : scanDown p d i j = j := by
 cases j with
 | zero => rfl
 | succ j =>
   rw [scanDown, if_neg]
   simp only [Bool.and_eq_true, decide_eq_true_eq, not_and, Bool.not_eq_true]; exact h (Nat.succ_pos _)
theorem part_gt {D d : Array (List UInt8)} {a b pivot i j : Nat} (hd : d = swp D a pivot) (hi : i = scanUp (fun x => ltStr x d[a]!) d (b - 1) (a + 1)) (hj : j = scanDown (fun x => !ltStr x d[a]!) d i (b - 1)) (h : i > j) : partition ltStr D a b pivot = (j, true, swp d j a) := by
 unfold partition
 simp only [← hd, ← hi, ← hj]
 rw [if_pos h]
theorem part_le {D d : Array (List UInt8)} {a b pivot i j : Nat} (hd : d = swp D a pivot) (hi : i = scanUp (fun x => ltStr x d[a]!) d (b - 1) (a + 1)) (hj : j = scanDown (fun x => !ltStr x d[a]!) d i (b - 1)) (h : ¬ i > j) :
   partition ltStr D a b pivot = ((partLoop ltStr a (i + 1) (j - 1) (swp d i j)).1, false, swp (partLoop ltStr a (i + 1) (j - 1) (swp d i j)).2 (partLoop ltStr a (i + 1) (j - 1) (swp d i j)).1 a) := by
 unfold partition
 simp only [← hd, ← hi, ← hj]
 rw [if_neg h]
set_option maxHeartbeats 4000000
theorem part_spec (bb N cap : Nat) (D : Array (List UInt8)) (a b pivot : Nat) (hN : N ≤ 1152921504606846975) (hap : a ≤ pivot) (hpb : pivot < b) (hb : b ≤ N) (hD : D.size = N) :
   FnE PP w0 [] 122 [.slice (some ⟨bb, 0, none⟩) N cap, .int .i64 a, .int .i64 b, .int .i64 pivot] [DatS 9 bb N cap D]
     (.tuple #[.int .i64 ((partition ltStr D a b pivot).1 : Nat), .bool (partition ltStr D a b pivot).2.1]) [DatS 9 bb N cap (partition ltStr D a b pivot).2.2] := by
 refine zep en122 fn122 rfl rfl rfl ?_
 repeat (first|refine zck ?_|refine zcl ?_|refine zcm ?_|refine zcn ?_)
 first|refine zcp (by kernel_rfl) ?_|refine zeh PP_mixed (by kernel_rfl) (by kernel_rfl) ?_
 repeat' (refine zap rfl ?_; first|refine zan rfl ?_)
 all_goals refine zch ?_
 all_goals repeat (refine zck ?_)
 repeat (first|refine zck ?_|refine zcl ?_|refine zcm ?_|refine zcn ?_)
 first|refine zcp (by kernel_rfl) ?_|refine zeh PP_mixed (by kernel_rfl) (by kernel_rfl) ?_
 repeat' (refine zap rfl ?_; first|refine reg_load_ds 0 rfl rfl (by omega) ?_|refine reg_store_ds 0 rfl rfl rfl (by omega) rfl ?_|refine zan rfl ?_|refine zas rfl rfl (by omega) ?_)
 all_goals refine zch ?_
 all_goals repeat (refine zck ?_)
 repeat (first|refine zck ?_|refine zcl ?_|refine zcm ?_|refine zcn ?_)
 first|refine zcp (by kernel_rfl) ?_|refine zeh PP_mixed (by kernel_rfl) (by kernel_rfl) ?_
 repeat' (refine zap rfl ?_; first|refine zan rfl ?_|refine zau rfl rfl (by omega) ?_|refine zav rfl rfl (by omega) ?_)
 all_goals refine zch ?_
 all_goals repeat (refine zck ?_)
 obtain ⟨d, hd⟩ : ∃ d, d = swp D a pivot := ⟨_, rfl⟩
 have hds : d.size = N := by rw [hd, Go.Sort.size_swp]; exact hD
 obtain ⟨i, hi⟩ : ∃ i, i = scanUp (fun x => ltStr x d[a]!) d (b - 1) (a + 1) := ⟨_, rfl⟩
 obtain ⟨j, hj⟩ : ∃ j, j = scanDown (fun x => !ltStr x d[a]!) d i (b - 1) := ⟨_, rfl⟩
 have hi1 : a + 1 ≤ i := by rw [hi]; exact Go.Sort.scanUp_ge _ _ _ _
 have hi2 : i ≤ b - 1 + 1 := by rw [hi]; exact (Go.Sort.scanUp_spec _ d (b - 1) _ (a + 1) rfl).2.1 (by omega)
 have hj1 : j ≤ b - 1 := by rw [hj]; exact Go.Sort.scanDown_le _ _ _ _
 have hj2 : i ≤ j + 1 := by rw [hj]; exact (Go.Sort.scanDown_spec _ d i (b - 1)).2.1 hi2
 have hij : ¬ j < i → i < j := fun h => by
   rcases Nat.lt_or_ge i j with h1 | h1
   · exact h1
   · have e : j = i := by omega
     have p1 := (Go.Sort.scanUp_spec (fun x => ltStr x d[a]!) d (b - 1) _ (a + 1) rfl).2.2.2
     have p2 := (Go.Sort.scanDown_spec (fun x => !ltStr x d[a]!) d i (b - 1)).2.2.2
     rw [← hi] at p1; rw [← hj] at p2
     have p3 := p1 (by omega); have p4 := p2 (by omega) (by omega)
     rw [e] at p4; (try dsimp only at p3 p4); simp [p3] at p4
 refine run_bind_eq (l' := [(0, .slice (some ⟨bb, 0, none⟩) N cap), (1, .int .i64 a), (10, .int .i64 ((i : Nat) : Int)), (11, .int .i64 ((b - 1 : Nat) : Int))]) (Γ' := [DatS 9 bb N cap d]) ?_ (fun junk => ?_)
 · repeat' (first|refine zcl ?_|(refine zap rfl ?_; first|refine zaj rfl ?_|refine zak rfl ?_|refine zal rfl ?_|refine zam rfl rfl (fun _ => ?_) (fun _ => ?_))|refine zch ?_)
   refine run_loop (S := Nat) (fun u => [(0, .slice (some ⟨bb, 0, none⟩) N cap), (1, .int .i64 a), (10, .int .i64 ((u : Nat) : Int)), (11, .int .i64 ((b - 1 : Nat) : Int))]) (fun u Γ => Γ = [DatS 9 bb N cap d] ∧ a + 1 ≤ u ∧ u ≤ b - 1 + 1 ∧ scanUp (fun x => ltStr x d[a]!) d (b - 1) u = i) (fun u => b - 1 + 1 - u) (a + 1) ⟨rfl, rfl, zes (by first | rfl | omega | (dsimp only; omega)), zes (by first | rfl | omega | (dsimp only; omega)), trivial⟩ ⟨?_, by omega, by omega, hi.symm⟩ ?_
   · rw [hd]; rfl
   rintro u Γ junk ⟨rfl, h1, h2, h4⟩
   try dsimp only at h1 h2 h4 ⊢
   by_cases hc : u ≤ b - 1
   · repeat' (first|refine zck ?_|refine zeh PP_mixed (by kernel_rfl) (by kernel_rfl) ?_|(refine zap rfl ?_; first|refine reg_load_ds 0 rfl rfl (by omega) ?_|refine zaj rfl ?_|refine zan rfl ?_|refine zah [] (less_spec w0 _ _) rfl rfl rfl zdj rfl ?_|refine zbi rfl rfl (by omega) ?_|refine zbu rfl ?_|refine zas rfl rfl (by omega) ?_)|refine zch ?_)
     refine zed rfl (fun hE => ?_) (fun hE => ?_)
     · repeat' (first|refine zcp (by kernel_rfl) ?_|refine zcm ?_|refine zcl ?_|refine zcn ?_|(refine zap rfl ?_; first|refine zan rfl ?_|refine zan rfl ?_|refine zau rfl rfl (by omega) ?_)|refine zch ?_)
       refine zeq ⟨rfl, u + 1, ⟨rfl, rfl, zes (by omega), rfl, trivial⟩, ⟨rfl, by omega, by omega, ?_⟩, by omega⟩
       rw [← h4, up_go hc (by simpa [ltStr] using hE)]
     · refine zer rfl rfl ?_
       refine zeq ⟨rfl, ⟨rfl, rfl, zes (congrArg Int.ofNat (by rw [← h4, up_stop (fun _ => by simpa [ltStr] using hE)])), rfl, trivial⟩, rfl⟩
   · repeat' (first|refine zck ?_|refine zeh PP_mixed (by kernel_rfl) (by kernel_rfl) ?_|(refine zap rfl ?_; first|refine zak rfl ?_|refine zan rfl ?_|refine zbj rfl rfl (by omega) ?_|refine zbv rfl ?_)|refine zch ?_|refine zcj rfl ?_)
     refine zer rfl rfl ?_
     refine zeq ⟨rfl, ⟨rfl, rfl, zes (congrArg Int.ofNat (by rw [← h4, up_stop (fun h => absurd h hc)])), rfl, trivial⟩, rfl⟩
 repeat refine zck ?_
 refine run_bind_eq (l' := [(0, .slice (some ⟨bb, 0, none⟩) N cap), (1, .int .i64 a), (10, .int .i64 ((i : Nat) : Int)), (11, .int .i64 ((j : Nat) : Int))]) (Γ' := [DatS 9 bb N cap d]) ?_ (fun junk => ?_)
 · repeat' (first|refine zcl ?_|(refine zap rfl ?_; first|refine zaj rfl ?_|refine zak rfl ?_|refine zal rfl ?_|refine zam rfl rfl (fun _ => ?_) (fun _ => ?_))|refine zch ?_)
   refine run_loop (S := Nat) (fun u => [(0, .slice (some ⟨bb, 0, none⟩) N cap), (1, .int .i64 a), (10, .int .i64 ((i : Nat) : Int)), (11, .int .i64 ((u : Nat) : Int))]) (fun u Γ => Γ = [DatS 9 bb N cap d] ∧ u ≤ b - 1 ∧ i ≤ u + 1 ∧ scanDown (fun x => !ltStr x d[a]!) d (i) u = j) (fun u => u) (b - 1) ⟨rfl, rfl, zes (by first | rfl | omega | (dsimp only; omega)), zes (by first | rfl | omega | (dsimp only; omega)), trivial⟩ ⟨?_, by omega, by omega, hj.symm⟩ ?_
   · rfl
   rintro u Γ junk ⟨rfl, h1, h2, h4⟩
   try dsimp only at h1 h2 h4 ⊢
   by_cases hc : i ≤ u
   · obtain ⟨u, rfl⟩ : ∃ m, u = m + 1 := ⟨u - 1, by omega⟩
     repeat' (first|refine zck ?_|refine zeh PP_mixed (by kernel_rfl) (by kernel_rfl) ?_|(refine zap rfl ?_; first|refine reg_load_ds 0 rfl rfl (by omega) ?_|refine zaj rfl ?_|refine zan rfl ?_|refine zah [] (less_spec w0 _ _) rfl rfl rfl zdj rfl ?_|refine zbi rfl rfl (by omega) ?_|refine zby rfl ?_|refine zbu rfl ?_|refine zas rfl rfl (by omega) ?_)|refine zch ?_)
     refine zed rfl (fun hE => ?_) (fun hE => ?_)
     · repeat' (first|refine zcp (by kernel_rfl) ?_|refine zcm ?_|refine zcl ?_|refine zcn ?_|(refine zap rfl ?_; first|refine zan rfl ?_|refine zan rfl ?_|refine zav rfl rfl (by omega) ?_)|refine zch ?_)
       refine zeq ⟨rfl, u, ⟨rfl, rfl, rfl, zes (by omega), trivial⟩, ⟨rfl, by omega, by omega, ?_⟩, by omega⟩
       rw [← h4, down_go hc (by simpa [ltStr] using hE)]
     · refine zer rfl rfl ?_
       refine zeq ⟨rfl, ⟨rfl, rfl, rfl, zes (congrArg Int.ofNat (by rw [← h4, down_stop (fun _ _ => by simpa [ltStr] using hE)])), trivial⟩, rfl⟩
   · repeat' (first|refine zck ?_|refine zeh PP_mixed (by kernel_rfl) (by kernel_rfl) ?_|(refine zap rfl ?_; first|refine zak rfl ?_|refine zan rfl ?_|refine zbj rfl rfl (by omega) ?_|refine zbv rfl ?_)|refine zch ?_|refine zcj rfl ?_)
     refine zer rfl rfl ?_
     refine zeq ⟨rfl, ⟨rfl, rfl, rfl, zes (congrArg Int.ofNat (by rw [← h4, down_stop (fun _ h => absurd h hc)])), trivial⟩, rfl⟩
 by_cases hgt : j < i
 · repeat' (first|refine zck ?_|refine zcp (by kernel_rfl) ?_|refine zeh PP_mixed (by kernel_rfl) (by kernel_rfl) ?_|(refine zap rfl ?_; first|refine reg_load_ds 0 rfl rfl (by omega) ?_|refine reg_store_ds 0 rfl rfl rfl (by omega) rfl ?_|refine zan rfl ?_|refine zan rfl ?_|refine zbk rfl rfl (by omega) ?_|refine zas rfl rfl (by omega) ?_)|refine zch ?_|refine zci rfl ?_)
   rw [part_gt hd hi hj hgt]
   exact zei rfl ⟨rfl, rfl⟩
 · rw [part_le hd hi hj hgt]
   replace hij := hij hgt
   obtain ⟨e, he⟩ : ∃ e, e = swp d i j := ⟨_, rfl⟩
   have hes : e.size = N := by rw [he, Go.Sort.size_swp]; exact hds
   repeat' (first|refine zck ?_|refine zcp (by kernel_rfl) ?_|refine zeh PP_mixed (by kernel_rfl) (by kernel_rfl) ?_|refine zcm ?_|refine zcl ?_|(refine zap rfl ?_; first|refine reg_load_ds 0 rfl rfl (by omega) ?_|refine reg_store_ds 0 rfl rfl rfl (by omega) rfl ?_|refine zan rfl ?_|refine zan rfl ?_|refine zbl rfl rfl (by omega) ?_|refine zau rfl rfl (by omega) ?_|refine zav rfl rfl (by omega) ?_|refine zas rfl rfl (by omega) ?_)|refine zch ?_|refine zcj rfl ?_)
   refine run_loop (S := Nat × Nat × Array (List UInt8)) (fun s => [(0, .slice (some ⟨bb, 0, none⟩) N cap), (1, .int .i64 a), (10, .int .i64 s.1), (11, .int .i64 s.2.1)])
     (fun s Γ => Γ = [DatS 9 bb N cap s.2.2] ∧ a < s.1 ∧ s.1 ≤ s.2.1 + 1 ∧ s.2.1 < b ∧ s.2.2.size = N ∧ partLoop ltStr a s.1 s.2.1 s.2.2 = partLoop ltStr a (i + 1) (j - 1) e)
     (fun s => s.2.1 + 1 - s.1) (i + 1, j - 1, e) ⟨rfl, rfl, zes (by first | rfl | omega | (dsimp only; omega)), zes (by first | rfl | omega | (dsimp only; omega)), trivial⟩ ⟨by rw [he]; rfl, by dsimp only; omega, by dsimp only; omega, by dsimp only; omega, hes, rfl⟩ ?_
   rw [← he]
   generalize partLoop ltStr a (i + 1) (j - 1) e = RR
   clear hi hj he hes hd hds hi1 hi2 hj1 hj2 hij hgt
   clear e i j d
   rintro ⟨i, j, d⟩ Γ junk ⟨rfl, g1, g2, g3, g4, g5⟩
   dsimp only at g1 g2 g3 g4 g5 ⊢
   obtain ⟨i2, hi⟩ : ∃ i2, i2 = scanUp (fun x => ltStr x d[a]!) d j i := ⟨_, rfl⟩
   obtain ⟨j2, hj⟩ : ∃ j2, j2 = scanDown (fun x => !ltStr x d[a]!) d i2 j := ⟨_, rfl⟩
   have hi1 : i ≤ i2 := by rw [hi]; exact Go.Sort.scanUp_ge _ _ _ _
   have hi2 : i2 ≤ j + 1 := by rw [hi]; exact (Go.Sort.scanUp_spec _ d j _ i rfl).2.1 (by omega)
   have hj1 : j2 ≤ j := by rw [hj]; exact Go.Sort.scanDown_le _ _ _ _
   have hj2 : i2 ≤ j2 + 1 := by rw [hj]; exact (Go.Sort.scanDown_spec _ d i2 j).2.1 hi2
   have hij : ¬ j2 < i2 → i2 < j2 := fun h => by
     rcases Nat.lt_or_ge i2 j2 with h1 | h1
     · exact h1
     · have e : j2 = i2 := by omega
       have p1 := (Go.Sort.scanUp_spec (fun x => ltStr x d[a]!) d (j) _ (i) rfl).2.2.2
       have p2 := (Go.Sort.scanDown_spec (fun x => !ltStr x d[a]!) d i2 (j)).2.2.2
       rw [← hi] at p1; rw [← hj] at p2
       have p3 := p1 (by omega); have p4 := p2 (by omega) (by omega)
       rw [e] at p4; (try dsimp only at p3 p4); simp [p3] at p4
   have hpe := Go.Sort.partLoop_eq ltStr a i j d
   rw [← hi, ← hj] at hpe
   refine zcl ?_
   repeat refine zck ?_
   refine run_bind_eq (l' := [(0, .slice (some ⟨bb, 0, none⟩) N cap), (1, .int .i64 a), (10, .int .i64 ((i2 : Nat) : Int)), (11, .int .i64 ((j : Nat) : Int))]) (Γ' := [DatS 9 bb N cap d]) ?_ (fun junk => ?_)
   · repeat' (first|refine zcl ?_|(refine zap rfl ?_; first|refine zaj rfl ?_|refine zak rfl ?_|refine zal rfl ?_|refine zam rfl rfl (fun _ => ?_) (fun _ => ?_))|refine zch ?_)
     refine run_loop (S := Nat) (fun u => [(0, .slice (some ⟨bb, 0, none⟩) N cap), (1, .int .i64 a), (10, .int .i64 ((u : Nat) : Int)), (11, .int .i64 ((j : Nat) : Int))]) (fun u Γ => Γ = [DatS 9 bb N cap d] ∧ i ≤ u ∧ u ≤ j + 1 ∧ scanUp (fun x => ltStr x d[a]!) d (j) u = i2) (fun u => j + 1 - u) (i) ⟨rfl, rfl, zes (by first | rfl | omega | (dsimp only; omega)), zes (by first | rfl | omega | (dsimp only; omega)), trivial⟩ ⟨?_, by omega, by omega, hi.symm⟩ ?_
     · rfl
     rintro u Γ junk ⟨rfl, h1, h2, h4⟩
     try dsimp only at h1 h2 h4 ⊢
     by_cases hc : u ≤ j
     · repeat' (first|refine zck ?_|refine zeh PP_mixed (by kernel_rfl) (by kernel_rfl) ?_|(refine zap rfl ?_; first|refine reg_load_ds 0 rfl rfl (by omega) ?_|refine zaj rfl ?_|refine zan rfl ?_|refine zah [] (less_spec w0 _ _) rfl rfl rfl zdj rfl ?_|refine zbi rfl rfl (by omega) ?_|refine zbu rfl ?_|refine zas rfl rfl (by omega) ?_)|refine zch ?_)
       refine zed rfl (fun hE => ?_) (fun hE => ?_)
       · repeat' (first|refine zcp (by kernel_rfl) ?_|refine zcm ?_|refine zcl ?_|refine zcn ?_|(refine zap rfl ?_; first|refine zan rfl ?_|refine zan rfl ?_|refine zau rfl rfl (by omega) ?_)|refine zch ?_)
         refine zeq ⟨rfl, u + 1, ⟨rfl, rfl, zes (by omega), rfl, trivial⟩, ⟨rfl, by omega, by omega, ?_⟩, by omega⟩
         rw [← h4, up_go hc (by simpa [ltStr] using hE)]
       · refine zer rfl rfl ?_
         refine zeq ⟨rfl, ⟨rfl, rfl, zes (congrArg Int.ofNat (by rw [← h4, up_stop (fun _ => by simpa [ltStr] using hE)])), rfl, trivial⟩, rfl⟩
     · repeat' (first|refine zck ?_|refine zeh PP_mixed (by kernel_rfl) (by kernel_rfl) ?_|(refine zap rfl ?_; first|refine zak rfl ?_|refine zan rfl ?_|refine zbj rfl rfl (by omega) ?_|refine zbv rfl ?_)|refine zch ?_|refine zcj rfl ?_)
       refine zer rfl rfl ?_
       refine zeq ⟨rfl, ⟨rfl, rfl, zes (congrArg Int.ofNat (by rw [← h4, up_stop (fun h => absurd h hc)])), rfl, trivial⟩, rfl⟩
   repeat refine zck ?_
   refine run_bind_eq (l' := [(0, .slice (some ⟨bb, 0, none⟩) N cap), (1, .int .i64 a), (10, .int .i64 ((i2 : Nat) : Int)), (11, .int .i64 ((j2 : Nat) : Int))]) (Γ' := [DatS 9 bb N cap d]) ?_ (fun junk => ?_)
   · repeat' (first|refine zcl ?_|(refine zap rfl ?_; first|refine zaj rfl ?_|refine zak rfl ?_|refine zal rfl ?_|refine zam rfl rfl (fun _ => ?_) (fun _ => ?_))|refine zch ?_)
     refine run_loop (S := Nat) (fun u => [(0, .slice (some ⟨bb, 0, none⟩) N cap), (1, .int .i64 a), (10, .int .i64 ((i2 : Nat) : Int)), (11, .int .i64 ((u : Nat) : Int))]) (fun u Γ => Γ = [DatS 9 bb N cap d] ∧ u ≤ j ∧ i2 ≤ u + 1 ∧ scanDown (fun x => !ltStr x d[a]!) d (i2) u = j2) (fun u => u) (j) ⟨rfl, rfl, zes (by first | rfl | omega | (dsimp only; omega)), zes (by first | rfl | omega | (dsimp only; omega)), trivial⟩ ⟨?_, by omega, by omega, hj.symm⟩ ?_
     · rfl
     rintro u Γ junk ⟨rfl, h1, h2, h4⟩
     try dsimp only at h1 h2 h4 ⊢
     by_cases hc : i2 ≤ u
     · obtain ⟨u, rfl⟩ : ∃ m, u = m + 1 := ⟨u - 1, by omega⟩
       repeat' (first|refine zck ?_|refine zeh PP_mixed (by kernel_rfl) (by kernel_rfl) ?_|(refine zap rfl ?_; first|refine reg_load_ds 0 rfl rfl (by omega) ?_|refine zaj rfl ?_|refine zan rfl ?_|refine zah [] (less_spec w0 _ _) rfl rfl rfl zdj rfl ?_|refine zbi rfl rfl (by omega) ?_|refine zby rfl ?_|refine zbu rfl ?_|refine zas rfl rfl (by omega) ?_)|refine zch ?_)
       refine zed rfl (fun hE => ?_) (fun hE => ?_)
       · repeat' (first|refine zcp (by kernel_rfl) ?_|refine zcm ?_|refine zcl ?_|refine zcn ?_|(refine zap rfl ?_; first|refine zan rfl ?_|refine zan rfl ?_|refine zav rfl rfl (by omega) ?_)|refine zch ?_)
         refine zeq ⟨rfl, u, ⟨rfl, rfl, rfl, zes (by omega), trivial⟩, ⟨rfl, by omega, by omega, ?_⟩, by omega⟩
         rw [← h4, down_go hc (by simpa [ltStr] using hE)]
       · refine zer rfl rfl ?_
         refine zeq ⟨rfl, ⟨rfl, rfl, rfl, zes (congrArg Int.ofNat (by rw [← h4, down_stop (fun _ _ => by simpa [ltStr] using hE)])), trivial⟩, rfl⟩
     · repeat' (first|refine zck ?_|refine zeh PP_mixed (by kernel_rfl) (by kernel_rfl) ?_|(refine zap rfl ?_; first|refine zak rfl ?_|refine zan rfl ?_|refine zbj rfl rfl (by omega) ?_|refine zbv rfl ?_)|refine zch ?_|refine zcj rfl ?_)
       refine zer rfl rfl ?_
       refine zeq ⟨rfl, ⟨rfl, rfl, rfl, zes (congrArg Int.ofNat (by rw [← h4, down_stop (fun _ h => absurd h hc)])), trivial⟩, rfl⟩
   by_cases hgt : j2 < i2
   · repeat' (first|refine zck ?_|refine zcp (by kernel_rfl) ?_|(refine zap rfl ?_; first|refine zan rfl ?_|refine zbk rfl rfl (by omega) ?_)|refine zch ?_|refine zci rfl ?_)
     refine zer rfl rfl ?_
     repeat' (first|refine zck ?_|refine zcp (by kernel_rfl) ?_|refine zeh PP_mixed (by kernel_rfl) (by kernel_rfl) ?_|(refine zap rfl ?_; first|refine reg_load_ds 0 rfl rfl (by omega) ?_|refine reg_store_ds 0 rfl rfl rfl (by omega) rfl ?_|refine zan rfl ?_|refine zan rfl ?_|refine zas rfl rfl (by omega) ?_)|refine zch ?_)
     rw [if_pos hgt] at hpe
     rw [← g5, hpe]
     exact zei rfl ⟨rfl, rfl⟩
   · replace hij := hij hgt
     repeat' (first|refine zck ?_|refine zcp (by kernel_rfl) ?_|refine zeh PP_mixed (by kernel_rfl) (by kernel_rfl) ?_|refine zcm ?_|refine zcn ?_|(refine zap rfl ?_; first|refine reg_load_ds 0 rfl rfl (by omega) ?_|refine reg_store_ds 0 rfl rfl rfl (by omega) rfl ?_|refine zan rfl ?_|refine zan rfl ?_|refine zbl rfl rfl (by omega) ?_|refine zau rfl rfl (by omega) ?_|refine zav rfl rfl (by omega) ?_|refine zas rfl rfl (by omega) ?_)|refine zch ?_|refine zcj rfl ?_)
     refine zeq ⟨rfl, (i2 + 1, j2 - 1, swp d i2 j2), ⟨rfl, rfl, zes (by first | rfl | omega | (dsimp only; omega)), zes (by first | rfl | omega | (dsimp only; omega)), trivial⟩, ⟨rfl, by dsimp only; omega, by dsimp only; omega, by dsimp only; omega, ?_, ?_⟩, by dsimp only; omega⟩
     · rw [Go.Sort.size_swp]; exact g4
     · rw [if_neg hgt] at hpe
       rw [← g5, hpe]
end Go.Proofs.YtikackodhiollaaGreatDoor
namespace Go.Proofs.YtikackodhiollaaGreatDoor
variable (w0 : World)
open Go.Vc
open Go.Sort (ltStr swp scanUp scanDown partEqLoop partitionEqual)
set_option maxHeartbeats 4000000
theorem partEq_spec (bb N cap : Nat) (D : Array (List UInt8)) (a b pivot : Nat) (hN : N ≤ 1152921504606846975) (hap : a ≤ pivot) (hpb : pivot < b) (hb : b ≤ N) (hD : D.size = N) :
   FnE PP w0 [] 121 [.slice (some ⟨bb, 0, none⟩) N cap, .int .i64 a, .int .i64 b, .int .i64 pivot] [DatS 9 bb N cap D]
     (.int .i64 ((partitionEqual ltStr D a b pivot).1 : Nat)) [DatS 9 bb N cap (partitionEqual ltStr D a b pivot).2] := by
 refine zep en121 fn121 rfl rfl rfl ?_
 repeat' (first|refine zck ?_|refine zcp (by kernel_rfl) ?_|refine zeh PP_mixed (by kernel_rfl) (by kernel_rfl) ?_|refine zcl ?_|(refine zap rfl ?_; first|refine reg_load_ds 0 rfl rfl (by omega) ?_|refine reg_store_ds 0 rfl rfl rfl (by omega) rfl ?_|refine zan rfl ?_|refine zan rfl ?_|refine zau rfl rfl (by omega) ?_|refine zav rfl rfl (by omega) ?_|refine zas rfl rfl (by omega) ?_)|refine zch ?_)
 refine run_loop (S := Nat × Nat × Array (List UInt8)) (fun s => [(0, .slice (some ⟨bb, 0, none⟩) N cap), (1, .int .i64 a), (9, .int .i64 s.1), (10, .int .i64 s.2.1)])
   (fun s Γ => Γ = [DatS 9 bb N cap s.2.2] ∧ a < s.1 ∧ s.1 ≤ s.2.1 + 1 ∧ s.2.1 < b ∧ s.2.2.size = N ∧ partEqLoop ltStr a s.1 s.2.1 s.2.2 = partitionEqual ltStr D a b pivot)
   (fun s => s.2.1 + 1 - s.1) (a + 1, b - 1, swp D a pivot) ⟨rfl, rfl, zes (by first | rfl | omega | (dsimp only; omega)), zes (by first | rfl | omega | (dsimp only; omega)), trivial⟩ ⟨rfl, by dsimp only; omega, by dsimp only; omega, by dsimp only; omega, by rw [Go.Sort.size_swp]; exact hD, rfl⟩ ?_
 generalize partitionEqual ltStr D a b pivot = RR
 rintro ⟨i, j, d⟩ Γ junk ⟨rfl, g1, g2, g3, g4, g5⟩
 dsimp only at g1 g2 g3 g4 g5 ⊢
 obtain ⟨i2, hi⟩ : ∃ i2, i2 = scanUp (fun x => !ltStr d[a]! x) d j i := ⟨_, rfl⟩
 obtain ⟨j2, hj⟩ : ∃ j2, j2 = scanDown (fun x => ltStr d[a]! x) d i2 j := ⟨_, rfl⟩
 have hi1 : i ≤ i2 := by rw [hi]; exact Go.Sort.scanUp_ge _ _ _ _
 have hi2 : i2 ≤ j + 1 := by rw [hi]; exact (Go.Sort.scanUp_spec _ d j _ i rfl).2.1 (by omega)
 have hj1 : j2 ≤ j := by rw [hj]; exact Go.Sort.scanDown_le _ _ _ _
 have hj2 : i2 ≤ j2 + 1 := by rw [hj]; exact (Go.Sort.scanDown_spec _ d i2 j).2.1 hi2
 have hij : ¬ j2 < i2 → i2 < j2 := fun h => by
   rcases Nat.lt_or_ge i2 j2 with h1 | h1
   · exact h1
   · have e : j2 = i2 := by omega
     have p1 := (Go.Sort.scanUp_spec (fun x => !ltStr d[a]! x) d j _ i rfl).2.2.2
     have p2 := (Go.Sort.scanDown_spec (fun x => ltStr d[a]! x) d i2 j).2.2.2
     rw [← hi] at p1; rw [← hj] at p2
     have p3 := p1 (by omega); have p4 := p2 (by omega) (by omega)
     rw [e] at p4; (try dsimp only at p3 p4); simp [p4] at p3
 have hpe := Go.Sort.partEqLoop_eq ltStr a i j d
 rw [← hi, ← hj] at hpe
 refine zcl ?_
 repeat refine zck ?_
 refine run_bind_eq (l' := [(0, .slice (some ⟨bb, 0, none⟩) N cap), (1, .int .i64 a), (9, .int .i64 ((i2 : Nat) : Int)), (10, .int .i64 ((j : Nat) : Int))]) (Γ' := [DatS 9 bb N cap d]) ?_ (fun junk => ?_)
 · repeat' (first|refine zcl ?_|(refine zap rfl ?_; first|refine zaj rfl ?_|refine zak rfl ?_|refine zal rfl ?_|refine zam rfl rfl (fun _ => ?_) (fun _ => ?_))|refine zch ?_)
   refine run_loop (S := Nat) (fun u => [(0, .slice (some ⟨bb, 0, none⟩) N cap), (1, .int .i64 a), (9, .int .i64 ((u : Nat) : Int)), (10, .int .i64 ((j : Nat) : Int))]) (fun u Γ => Γ = [DatS 9 bb N cap d] ∧ i ≤ u ∧ u ≤ j + 1 ∧ scanUp (fun x => !ltStr d[a]! x) d (j) u = i2) (fun u => j + 1 - u) (i) ⟨rfl, rfl, zes (by first | rfl | omega | (dsimp only; omega)), zes (by first | rfl | omega | (dsimp only; omega)), trivial⟩ ⟨?_, by omega, by omega, hi.symm⟩ ?_
   · rfl
   rintro u Γ junk ⟨rfl, h1, h2, h4⟩
   try dsimp only at h1 h2 h4 ⊢
   by_cases hc : u ≤ j
   · repeat' (first|refine zck ?_|refine zeh PP_mixed (by kernel_rfl) (by kernel_rfl) ?_|(refine zap rfl ?_; first|refine reg_load_ds 0 rfl rfl (by omega) ?_|refine zaj rfl ?_|refine zan rfl ?_|refine zah [] (less_spec w0 _ _) rfl rfl rfl zdj rfl ?_|refine zbi rfl rfl (by omega) ?_|refine zby rfl ?_|refine zbu rfl ?_|refine zas rfl rfl (by omega) ?_)|refine zch ?_)
     refine zed rfl (fun hE => ?_) (fun hE => ?_)
     · repeat' (first|refine zcp (by kernel_rfl) ?_|refine zcm ?_|refine zcl ?_|refine zcn ?_|(refine zap rfl ?_; first|refine zan rfl ?_|refine zan rfl ?_|refine zau rfl rfl (by omega) ?_)|refine zch ?_)
       refine zeq ⟨rfl, u + 1, ⟨rfl, rfl, zes (by omega), rfl, trivial⟩, ⟨rfl, by omega, by omega, ?_⟩, by omega⟩
       rw [← h4, up_go hc (by simpa [ltStr] using hE)]
     · refine zer rfl rfl ?_
       refine zeq ⟨rfl, ⟨rfl, rfl, zes (congrArg Int.ofNat (by rw [← h4, up_stop (fun _ => by simpa [ltStr] using hE)])), rfl, trivial⟩, rfl⟩
   · repeat' (first|refine zck ?_|refine zeh PP_mixed (by kernel_rfl) (by kernel_rfl) ?_|(refine zap rfl ?_; first|refine zak rfl ?_|refine zan rfl ?_|refine zbj rfl rfl (by omega) ?_|refine zbv rfl ?_)|refine zch ?_|refine zcj rfl ?_)
     refine zer rfl rfl ?_
     refine zeq ⟨rfl, ⟨rfl, rfl, zes (congrArg Int.ofNat (by rw [← h4, up_stop (fun h => absurd h hc)])), rfl, trivial⟩, rfl⟩
 repeat refine zck ?_
 refine run_bind_eq (l' := [(0, .slice (some ⟨bb, 0, none⟩) N cap), (1, .int .i64 a), (9, .int .i64 ((i2 : Nat) : Int)), (10, .int .i64 ((j2 : Nat) : Int))]) (Γ' := [DatS 9 bb N cap d]) ?_ (fun junk => ?_)
 · repeat' (first|refine zcl ?_|(refine zap rfl ?_; first|refine zaj rfl ?_|refine zak rfl ?_|refine zal rfl ?_|refine zam rfl rfl (fun _ => ?_) (fun _ => ?_))|refine zch ?_)
   refine run_loop (S := Nat) (fun u => [(0, .slice (some ⟨bb, 0, none⟩) N cap), (1, .int .i64 a), (9, .int .i64 ((i2 : Nat) : Int)), (10, .int .i64 ((u : Nat) : Int))]) (fun u Γ => Γ = [DatS 9 bb N cap d] ∧ u ≤ j ∧ i2 ≤ u + 1 ∧ scanDown (fun x => ltStr d[a]! x) d (i2) u = j2) (fun u => u) (j) ⟨rfl, rfl, zes (by first | rfl | omega | (dsimp only; omega)), zes (by first | rfl | omega | (dsimp only; omega)), trivial⟩ ⟨?_, by omega, by omega, hj.symm⟩ ?_
   · rfl
   rintro u Γ junk ⟨rfl, h1, h2, h4⟩
   try dsimp only at h1 h2 h4 ⊢
   by_cases hc : i2 ≤ u
   · obtain ⟨u, rfl⟩ : ∃ m, u = m + 1 := ⟨u - 1, by omega⟩
     repeat' (first|refine zck ?_|refine zeh PP_mixed (by kernel_rfl) (by kernel_rfl) ?_|(refine zap rfl ?_; first|refine reg_load_ds 0 rfl rfl (by omega) ?_|refine zaj rfl ?_|refine zan rfl ?_|refine zah [] (less_spec w0 _ _) rfl rfl rfl zdj rfl ?_|refine zbi rfl rfl (by omega) ?_|refine zbu rfl ?_|refine zas rfl rfl (by omega) ?_)|refine zch ?_)
     refine zed rfl (fun hE => ?_) (fun hE => ?_)
     · repeat' (first|refine zcp (by kernel_rfl) ?_|refine zcm ?_|refine zcl ?_|refine zcn ?_|(refine zap rfl ?_; first|refine zan rfl ?_|refine zan rfl ?_|refine zav rfl rfl (by omega) ?_)|refine zch ?_)
       refine zeq ⟨rfl, u, ⟨rfl, rfl, rfl, zes (by omega), trivial⟩, ⟨rfl, by omega, by omega, ?_⟩, by omega⟩
       rw [← h4, down_go hc (by simpa [ltStr] using hE)]
     · refine zer rfl rfl ?_
       refine zeq ⟨rfl, ⟨rfl, rfl, rfl, zes (congrArg Int.ofNat (by rw [← h4, down_stop (fun _ _ => by simpa [ltStr] using hE)])), trivial⟩, rfl⟩
   · repeat' (first|refine zck ?_|refine zeh PP_mixed (by kernel_rfl) (by kernel_rfl) ?_|(refine zap rfl ?_; first|refine zak rfl ?_|refine zan rfl ?_|refine zbj rfl rfl (by omega) ?_|refine zbv rfl ?_)|refine zch ?_|refine zcj rfl ?_)
     refine zer rfl rfl ?_
     refine zeq ⟨rfl, ⟨rfl, rfl, rfl, zes (congrArg Int.ofNat (by rw [← h4, down_stop (fun _ h => absurd h hc)])), trivial⟩, rfl⟩
 by_cases hgt : j2 < i2
 · repeat' (first|refine zck ?_|refine zcp (by kernel_rfl) ?_|(refine zap rfl ?_; first|refine zan rfl ?_|refine zbk rfl rfl (by omega) ?_)|refine zch ?_|refine zci rfl ?_)
   refine zer rfl rfl ?_
   repeat' (first|refine zck ?_|refine zcp (by kernel_rfl) ?_|(refine zap rfl ?_; first|refine zan rfl ?_|refine zan rfl ?_)|refine zch ?_)
   rw [if_pos hgt] at hpe
   rw [← g5, hpe]
   exact zej rfl ⟨rfl, rfl⟩
 · replace hij := hij hgt
   repeat' (first|refine zck ?_|refine zcp (by kernel_rfl) ?_|refine zeh PP_mixed (by kernel_rfl) (by kernel_rfl) ?_|refine zcm ?_|refine zcn ?_|(refine zap rfl ?_; first|refine reg_load_ds 0 rfl rfl (by omega) ?_|refine reg_store_ds 0 rfl rfl rfl (by omega) rfl ?_|refine zan rfl ?_|refine zan rfl ?_|refine zbl rfl rfl (by omega) ?_|refine zau rfl rfl (by omega) ?_|refine zav rfl rfl (by omega) ?_|refine zas rfl rfl (by omega) ?_)|refine zch ?_|refine zcj rfl ?_)
   refine zeq ⟨rfl, (i2 + 1, j2 - 1, swp d i2 j2), ⟨rfl, rfl, zes (by first | rfl | omega | (dsimp only; omega)), zes (by first | rfl | omega | (dsimp only; omega)), trivial⟩, ⟨rfl, by dsimp only; omega, by dsimp only; omega, by dsimp only; omega, ?_, ?_⟩, by dsimp only; omega⟩
   · rw [Go.Sort.size_swp]; exact g4
   · rw [if_neg hgt] at hpe
     rw [← g5, hpe]
end Go.Proofs.YtikackodhiollaaGreatDoor
namespace Go.Proofs.YtikackodhiollaaGreatDoor
variable (w0 : World)
open Go.Vc
open Go.Sort (ltStr swp scanSorted shiftDown shiftUp partialIns partialInsertionSort)
theorem sd_go {j : Nat} {d : Array (List UInt8)} (hl : ltStr d[j + 1]! d[j]! = true) : shiftDown ltStr (j + 1) d = shiftDown ltStr j (swp d (j + 1) j) := by
 rw [shiftDown]; simp [hl]
theorem sd_stop {j : Nat} {d : Array (List UInt8)} (hl : ltStr d[j + 1]! d[j]! = false) : shiftDown ltStr (j + 1) d = d := by
 rw [shiftDown]; simp [hl]
theorem su_go {b j : Nat} {d : Array (List UInt8)} (h : j < b) (hl : ltStr d[j]! d[j - 1]! = true) : shiftUp ltStr b j d = shiftUp ltStr b (j + 1) (swp d j (j - 1)) := by
 rw [shiftUp, if_pos h, if_neg (by simp [hl])]
theorem su_stop {b j : Nat} {d : Array (List UInt8)} (hl : j < b → ltStr d[j]! d[j - 1]! = false) : shiftUp ltStr b j d = d := by
 rw [shiftUp]
 split
 · rename_i h; rw [if_pos (by simp [hl h])]
 · rfl
theorem ss_go {b i : Nat} {d : Array (List UInt8)} (h : i < b) (hl : ltStr d[i]! d[i - 1]! = false) : scanSorted ltStr d b i = scanSorted ltStr d b (i + 1) := by
 rw [scanSorted, if_pos (by simp only [hl, Bool.not_false, Bool.and_true, decide_eq_true_eq]; exact h)]
theorem ss_stop {b i : Nat} {d : Array (List UInt8)} (hl : i < b → ltStr d[i]! d[i - 1]! = true) : scanSorted ltStr d b i = i := by
 rw [scanSorted, if_neg]
 simp only [Bool.and_eq_true, decide_eq_true_eq, not_and, Bool.not_eq_true]
 intro h; rw [hl h]; rfl
theorem ss_range {b : Nat} {d : Array (List UInt8)} : ∀ (m i : Nat), b - i = m → i ≤ b → i ≤ scanSorted ltStr d b i ∧ scanSorted ltStr d b i ≤ b := by
 intro m
 induction m with
 | zero => intro i h1 h2; rw [ss_stop (fun h => by omega)]; omega
 | succ m ih =>
   intro i h1 h2
   cases hl : ltStr d[i]! d[i - 1]! with
   | true => rw [ss_stop (fun _ => hl)]; omega
   | false =>
     rw [ss_go (by omega) hl]
     have := ih (i + 1) (by omega) (by omega)
     omega
theorem pi_true {a b s i : Nat} {d : Array (List UInt8)} (h : scanSorted ltStr d b i = b) : partialIns ltStr a b (s + 1) i d = (d, true) := by
 rw [partialIns]; simp only [h, if_true]
theorem pi_small {a b s i : Nat} {d : Array (List UInt8)} (h : scanSorted ltStr d b i ≠ b) (h5 : b - a < 50) : partialIns ltStr a b (s + 1) i d = (d, false) := by
 rw [partialIns]; simp only [h, h5, if_true, if_false]
theorem pi_go {a b s i j : Nat} {d : Array (List UInt8)} (hj : j = scanSorted ltStr d b i) (h : j ≠ b) (h5 : ¬ b - a < 50) : partialIns ltStr a b (s + 1) i d =
   partialIns ltStr a b s j (if b - j ≥ 2 then shiftUp ltStr b (j + 1) (if j - a ≥ 2 then shiftDown ltStr (j - 1) (swp d j (j - 1)) else swp d j (j - 1)) else (if j - a ≥ 2 then shiftDown ltStr (j - 1) (swp d j (j - 1)) else swp d j (j - 1))) := by
 rw [partialIns]; simp only [← hj, h, h5, if_false]
set_option maxHeartbeats 4000000
theorem partial_spec (bb N cap : Nat) (D : Array (List UInt8)) (a b : Nat) (hN : N ≤ 1152921504606846975) (hab : a < b) (hb : b ≤ N) :
   FnE PP w0 [] 119 [.slice (some ⟨bb, 0, none⟩) N cap, .int .i64 a, .int .i64 b] [DatS 9 bb N cap D]
     (.bool (partialInsertionSort ltStr D a b).2) [DatS 9 bb N cap (partialInsertionSort ltStr D a b).1] := by
 refine zep en119 fn119 rfl rfl rfl ?_
 repeat' (first|refine zck ?_|refine zcp (by kernel_rfl) ?_|refine zcl ?_|(refine zap rfl ?_; first|refine zan rfl ?_|refine zan rfl ?_|refine zau rfl rfl (by omega) ?_)|refine zch ?_)
 refine run_loop (S := Nat × Nat × Array (List UInt8)) (fun s => [(0, .slice (some ⟨bb, 0, none⟩) N cap), (1, .int .i64 a), (2, .int .i64 b), (6, .bool false), (7, .int .i64 s.2.1), (8, .int .i64 (5 - (s.1 : Int)))])
   (fun s Γ => Γ = [DatS 9 bb N cap s.2.2] ∧ s.1 ≤ 5 ∧ a < s.2.1 ∧ s.2.1 ≤ b ∧ partialIns ltStr a b s.1 s.2.1 s.2.2 = partialInsertionSort ltStr D a b)
   (fun s => s.1) (5, a + 1, D) ⟨rfl, rfl, rfl, rfl, zes (by first | rfl | omega | (dsimp only; omega)), rfl, trivial⟩ ⟨rfl, by dsimp only; omega, by dsimp only; omega, by dsimp only; omega, rfl⟩ ?_
 generalize partialInsertionSort ltStr D a b = RR
 rintro ⟨s, i, d⟩ Γ junk ⟨rfl, g1, g2, g3, g5⟩
 dsimp only at g1 g2 g3 g5 ⊢
 by_cases hs : 0 < s
 · obtain ⟨s, rfl⟩ : ∃ m, s = m + 1 := ⟨s - 1, by omega⟩
   repeat (first|refine zck ?_|refine zcl ?_|refine zcm ?_|refine zcn ?_)
   first|refine zcp (by kernel_rfl) ?_|refine zeh PP_mixed (by kernel_rfl) (by kernel_rfl) ?_
   repeat' (refine zap rfl ?_; first|refine zan rfl ?_|refine zbg rfl rfl (by omega) ?_)
   all_goals refine zch ?_
   all_goals repeat (refine zck ?_)
   refine zci rfl ?_
   repeat (first|refine zcm ?_|refine zck ?_)
   refine zcl ?_
   repeat refine zck ?_
   obtain ⟨j, hj⟩ : ∃ j, j = scanSorted ltStr d b i := ⟨_, rfl⟩
   have hjr : i ≤ j ∧ j ≤ b := by rw [hj]; exact ss_range _ i rfl g3
   refine run_bind_eq (l' := [(0, .slice (some ⟨bb, 0, none⟩) N cap), (1, .int .i64 a), (2, .int .i64 b), (6, .bool false), (7, .int .i64 j), (8, .int .i64 (5 - ((s + 1 : Nat) : Int)))]) (Γ' := [DatS 9 bb N cap d]) ?_ (fun junk => ?_)
   · repeat' (first|refine zcl ?_|(refine zap rfl ?_; first|refine zaj rfl ?_|refine zak rfl ?_|refine zal rfl ?_|refine zam rfl rfl (fun _ => ?_) (fun _ => ?_))|refine zch ?_)
     refine run_loop (S := Nat) (fun u => [(0, .slice (some ⟨bb, 0, none⟩) N cap), (1, .int .i64 a), (2, .int .i64 b), (6, .bool false), (7, .int .i64 u), (8, .int .i64 (5 - ((s + 1 : Nat) : Int)))])
       (fun u Γ => Γ = [DatS 9 bb N cap d] ∧ a < u ∧ u ≤ b ∧ scanSorted ltStr d b u = j) (fun u => b - u) i ⟨rfl, rfl, rfl, rfl, rfl, rfl, trivial⟩ ⟨rfl, by omega, by omega, hj.symm⟩ ?_
     rintro u Γ junk ⟨rfl, h1, h2, h4⟩
     have e1 : ((u : Nat) : Int).toNat = u := by omega
     have e2 : (((u : Nat) : Int) - 1).toNat = u - 1 := by omega
     by_cases hc : u < b
     · repeat' (first|refine zck ?_|refine zeh PP_mixed (by kernel_rfl) (by kernel_rfl) ?_|(refine zap rfl ?_; first|refine reg_load_ds 0 rfl rfl (by omega) ?_|refine zaj rfl ?_|refine zan rfl ?_|refine zah [] (less_spec w0 _ _) rfl rfl rfl zdj rfl ?_|refine zbg rfl rfl (by omega) ?_|refine zav rfl rfl (by omega) ?_|refine zby rfl ?_|refine zbu rfl ?_|refine zas rfl rfl (by omega) ?_)|refine zch ?_)
       refine zed rfl (fun hE => ?_) (fun hE => ?_)
       · rw [e1, e2] at hE
         repeat' (first|refine zcp (by kernel_rfl) ?_|refine zcm ?_|refine zcl ?_|refine zcn ?_|(refine zap rfl ?_; first|refine zan rfl ?_|refine zan rfl ?_|refine zau rfl rfl (by omega) ?_)|refine zch ?_)
         refine zeq ⟨rfl, u + 1, ⟨rfl, rfl, rfl, rfl, zes (by first | rfl | omega | (dsimp only; omega)), rfl, trivial⟩, ⟨rfl, by omega, by omega, ?_⟩, by omega⟩
         rw [← h4, ss_go hc (by simpa [ltStr] using hE)]
       · rw [e1, e2] at hE
         refine zer rfl rfl ?_
         refine zeq ⟨rfl, ⟨rfl, rfl, rfl, rfl, zes (congrArg Int.ofNat (by rw [← h4, ss_stop (fun _ => by simpa [ltStr] using hE)])), rfl, trivial⟩, rfl⟩
     · repeat' (first|refine zck ?_|refine zeh PP_mixed (by kernel_rfl) (by kernel_rfl) ?_|(refine zap rfl ?_; first|refine zak rfl ?_|refine zan rfl ?_|refine zbh rfl rfl (by omega) ?_|refine zbv rfl ?_)|refine zch ?_|refine zcj rfl ?_)
       refine zer rfl rfl ?_
       refine zeq ⟨rfl, ⟨rfl, rfl, rfl, rfl, zes (congrArg Int.ofNat (by rw [← h4, ss_stop (fun h => absurd h hc)])), rfl, trivial⟩, rfl⟩
   by_cases hjb : j = b
   · repeat' (first|refine zck ?_|refine zcp (by kernel_rfl) ?_|(refine zap rfl ?_; first|refine zan rfl ?_|refine zan rfl ?_|refine zbc rfl rfl (by omega) ?_)|refine zch ?_|refine zci rfl ?_)
     refine qret1 (fun _ _ h => h) rfl ⟨?_, (show [_] = [_] from ?_)⟩
     · rw [← g5, pi_true (by omega)]; rfl
     · rw [← g5, pi_true (by omega)]
   · by_cases h50 : b - a < 50
     · repeat' (first|refine zck ?_|refine zcp (by kernel_rfl) ?_|refine zcm ?_|(refine zap rfl ?_; first|refine zan rfl ?_|refine zan rfl ?_|refine zbd rfl rfl (by omega) ?_|refine zbg rfl rfl (by omega) ?_|refine zav rfl rfl (by omega) ?_)|refine zch ?_|refine zci rfl ?_|refine zcj rfl ?_)
       refine qret1 (fun _ _ h => h) rfl ⟨?_, (show [_] = [_] from ?_)⟩
       · rw [← g5, pi_small (by omega) h50]; rfl
       · rw [← g5, pi_small (by omega) h50]
     · rw [pi_go hj hjb h50] at g5
       have e1 : ((j : Nat) : Int).toNat = j := by omega
       have e2 : (((j : Nat) : Int) - 1).toNat = j - 1 := by omega
       obtain ⟨d1, hd1⟩ : ∃ d1, d1 = swp d j (j - 1) := ⟨_, rfl⟩
       obtain ⟨d2, hd2⟩ : ∃ d2, d2 = if j - a ≥ 2 then shiftDown ltStr (j - 1) d1 else d1 := ⟨_, rfl⟩
       obtain ⟨d3, hd3⟩ : ∃ d3, d3 = if b - j ≥ 2 then shiftUp ltStr b (j + 1) d2 else d2 := ⟨_, rfl⟩
       rw [← hd1, ← hd2, ← hd3] at g5
       repeat (first|refine zck ?_|refine zcl ?_|refine zcm ?_|refine zcn ?_)
       first|refine zcp (by kernel_rfl) ?_|refine zeh PP_mixed (by kernel_rfl) (by kernel_rfl) ?_
       repeat' (refine zap rfl ?_; first|refine zan rfl ?_|refine zbd rfl rfl (by omega) ?_)
       all_goals (refine zch ?_; repeat (first|refine zck ?_|refine zcl ?_|refine zcm ?_|refine zcn ?_))
       refine zcj rfl ?_
       refine zcm ?_
       repeat (first|refine zck ?_|refine zcl ?_|refine zcm ?_|refine zcn ?_)
       first|refine zcp (by kernel_rfl) ?_|refine zeh PP_mixed (by kernel_rfl) (by kernel_rfl) ?_
       repeat' (refine zap rfl ?_; first|refine zan rfl ?_|refine zbh rfl rfl (by omega) ?_|refine zav rfl rfl (by omega) ?_)
       all_goals (refine zch ?_; repeat (first|refine zck ?_|refine zcl ?_|refine zcm ?_|refine zcn ?_))
       refine zcj rfl ?_
       refine zcm ?_
       repeat (first|refine zck ?_|refine zcl ?_|refine zcm ?_|refine zcn ?_)
       first|refine zcp (by kernel_rfl) ?_|refine zeh PP_mixed (by kernel_rfl) (by kernel_rfl) ?_
       repeat' (refine zap rfl ?_; first|refine reg_load_ds 0 rfl rfl (by omega) ?_|refine reg_store_ds 0 rfl rfl rfl (by omega) rfl ?_|refine zan rfl ?_|refine zav rfl rfl (by omega) ?_|refine zas rfl rfl (by omega) ?_)
       all_goals (refine zch ?_; repeat (first|refine zck ?_|refine zcl ?_|refine zcm ?_|refine zcn ?_))
       first|refine zcp (by kernel_rfl) ?_|refine zeh PP_mixed (by kernel_rfl) (by kernel_rfl) ?_
       repeat' (refine zap rfl ?_; first|refine zan rfl ?_|refine zav rfl rfl (by omega) ?_|refine zbt rfl rfl ?_)
       all_goals (refine zch ?_; repeat (first|refine zck ?_|refine zcl ?_|refine zcm ?_|refine zcn ?_))
       refine run_bind_eq (l' := [(0, .slice (some ⟨bb, 0, none⟩) N cap), (1, .int .i64 a), (2, .int .i64 b), (6, .bool false), (7, .int .i64 j), (8, .int .i64 (5 - ((s + 1 : Nat) : Int)))]) (Γ' := [DatS 9 bb N cap d2]) ?_ (fun junk => ?_)
       · refine zed rfl (fun hc => ?_) (fun hc => ?_)
         · rw [if_pos (by omega)] at hd2
           repeat' (first|refine zck ?_|refine zcp (by kernel_rfl) ?_|refine zcl ?_|(refine zap rfl ?_; first|refine zan rfl ?_|refine zan rfl ?_|refine zav rfl rfl (by omega) ?_)|refine zch ?_)
           refine run_loop (S := Nat × Array (List UInt8)) (fun s' => [(0, .slice (some ⟨bb, 0, none⟩) N cap), (1, .int .i64 a), (2, .int .i64 b), (6, .bool false), (7, .int .i64 j), (8, .int .i64 (5 - ((s + 1 : Nat) : Int))), (9, .int .i64 s'.1)])
             (fun s' Γ => Γ = [DatS 9 bb N cap s'.2] ∧ s'.1 < b ∧ shiftDown ltStr s'.1 s'.2 = d2) (fun s' => s'.1) (j - 1, d1) ⟨rfl, rfl, rfl, rfl, rfl, rfl, zes (by first | rfl | omega | (dsimp only; omega)), trivial⟩ ⟨by rw [hd1, e1, e2]; rfl, by dsimp only; omega, hd2.symm⟩ ?_
           rintro ⟨u, v⟩ Γ junk ⟨rfl, h1, h4⟩
           dsimp only at h1 h4 ⊢
           by_cases hu : 0 < u
           · obtain ⟨u, rfl⟩ : ∃ m, u = m + 1 := ⟨u - 1, by omega⟩
             have e3 : ((u + 1 : Nat) : Int).toNat = u + 1 := by omega
             have e4 : (((u + 1 : Nat) : Int) - 1).toNat = u := by omega
             repeat' (first|refine zck ?_|refine zcp (by kernel_rfl) ?_|refine zeh PP_mixed (by kernel_rfl) (by kernel_rfl) ?_|refine zcm ?_|refine zcl ?_|(refine zap rfl ?_; first|refine reg_load_ds 0 rfl rfl (by omega) ?_|refine zan rfl ?_|refine zah [] (less_spec w0 _ _) rfl rfl rfl zdj rfl ?_|refine zbm rfl rfl (by omega) ?_|refine zav rfl rfl (by omega) ?_|refine zby rfl ?_|refine zas rfl rfl (by omega) ?_)|refine zch ?_|refine zci rfl ?_)
             refine zed rfl (fun hE => ?_) (fun hE => ?_)
             · rw [e3, e4] at hE
               refine zer rfl rfl ?_
               refine zeq ⟨rfl, ⟨rfl, rfl, rfl, rfl, rfl, rfl, trivial⟩, ?_⟩
               rw [← h4, sd_stop (by simpa [ltStr] using hE)]; rfl
             · rw [e3, e4] at hE
               repeat' (first|refine zcp (by kernel_rfl) ?_|refine zeh PP_mixed (by kernel_rfl) (by kernel_rfl) ?_|refine zcm ?_|refine zcn ?_|(refine zap rfl ?_; first|refine reg_load_ds 0 rfl rfl (by omega) ?_|refine reg_store_ds 0 rfl rfl rfl (by omega) rfl ?_|refine zan rfl ?_|refine zan rfl ?_|refine zav rfl rfl (by omega) ?_|refine zas rfl rfl (by omega) ?_)|refine zch ?_)
               refine zeq ⟨rfl, (u, swp v (u + 1) u), ⟨rfl, rfl, rfl, rfl, rfl, rfl, zes (by first | rfl | omega | (dsimp only; omega)), trivial⟩, ⟨?_, by dsimp only; omega, ?_⟩, by dsimp only; omega⟩
               · rw [e3, e4]; rfl
               · rw [← h4, sd_go (by simpa [ltStr] using hE)]
           · have hu0 : u = 0 := by omega
             subst hu0
             repeat' (first|refine zck ?_|refine zcp (by kernel_rfl) ?_|(refine zap rfl ?_; first|refine zan rfl ?_|refine zbn rfl rfl (by omega) ?_)|refine zch ?_|refine zcj rfl ?_)
             refine zer rfl rfl ?_
             refine zeq ⟨rfl, ⟨rfl, rfl, rfl, rfl, rfl, rfl, trivial⟩, ?_⟩
             rw [← h4]; rfl
         · rw [if_neg (by omega)] at hd2
           repeat' (first|refine zcm ?_|(refine zap rfl ?_; first|refine reg_load_ds 0 rfl rfl (by omega) ?_)|refine zch ?_)
           refine zeq ⟨rfl, ⟨rfl, rfl, rfl, rfl, rfl, rfl, trivial⟩, ?_⟩
           rw [hd2, hd1, e1, e2]; rfl
       repeat (first|refine zck ?_|refine zcl ?_|refine zcm ?_|refine zcn ?_)
       first|refine zcp (by kernel_rfl) ?_|refine zeh PP_mixed (by kernel_rfl) (by kernel_rfl) ?_
       repeat' (refine zap rfl ?_; first|refine zan rfl ?_|refine zav rfl rfl (by omega) ?_|refine zbt rfl rfl ?_)
       all_goals (refine zch ?_; repeat (first|refine zck ?_|refine zcl ?_|refine zcm ?_|refine zcn ?_))
       refine run_bind_eq (l' := [(0, .slice (some ⟨bb, 0, none⟩) N cap), (1, .int .i64 a), (2, .int .i64 b), (6, .bool false), (7, .int .i64 j), (8, .int .i64 (5 - ((s + 1 : Nat) : Int)))]) (Γ' := [DatS 9 bb N cap d3]) ?_ (fun junk => ?_)
       · refine zed rfl (fun hc => ?_) (fun hc => ?_)
         · rw [if_pos (by omega)] at hd3
           repeat' (first|refine zck ?_|refine zcp (by kernel_rfl) ?_|refine zcl ?_|(refine zap rfl ?_; first|refine zan rfl ?_|refine zan rfl ?_|refine zau rfl rfl (by omega) ?_)|refine zch ?_)
           refine run_loop (S := Nat × Array (List UInt8)) (fun s' => [(0, .slice (some ⟨bb, 0, none⟩) N cap), (1, .int .i64 a), (2, .int .i64 b), (6, .bool false), (7, .int .i64 j), (8, .int .i64 (5 - ((s + 1 : Nat) : Int))), (10, .int .i64 s'.1)])
             (fun s' Γ => Γ = [DatS 9 bb N cap s'.2] ∧ 0 < s'.1 ∧ s'.1 ≤ b ∧ shiftUp ltStr b s'.1 s'.2 = d3) (fun s' => b - s'.1) (j + 1, d2) ⟨rfl, rfl, rfl, rfl, rfl, rfl, zes (by first | rfl | omega | (dsimp only; omega)), trivial⟩ ⟨rfl, by dsimp only; omega, by dsimp only; omega, hd3.symm⟩ ?_
           rintro ⟨u, v⟩ Γ junk ⟨rfl, h0, h1, h4⟩
           dsimp only at h0 h1 h4 ⊢
           by_cases hu : u < b
           · have e3 : ((u : Nat) : Int).toNat = u := by omega
             have e4 : (((u : Nat) : Int) - 1).toNat = u - 1 := by omega
             repeat' (first|refine zck ?_|refine zcp (by kernel_rfl) ?_|refine zeh PP_mixed (by kernel_rfl) (by kernel_rfl) ?_|refine zcm ?_|refine zcl ?_|(refine zap rfl ?_; first|refine reg_load_ds 0 rfl rfl (by omega) ?_|refine zan rfl ?_|refine zah [] (less_spec w0 _ _) rfl rfl rfl zdj rfl ?_|refine zbg rfl rfl (by omega) ?_|refine zav rfl rfl (by omega) ?_|refine zby rfl ?_|refine zas rfl rfl (by omega) ?_)|refine zch ?_|refine zci rfl ?_)
             refine zed rfl (fun hE => ?_) (fun hE => ?_)
             · rw [e3, e4] at hE
               refine zer rfl rfl ?_
               refine zeq ⟨rfl, ⟨rfl, rfl, rfl, rfl, rfl, rfl, trivial⟩, ?_⟩
               rw [← h4, su_stop (fun _ => by simpa [ltStr] using hE)]; rfl
             · rw [e3, e4] at hE
               repeat' (first|refine zcp (by kernel_rfl) ?_|refine zeh PP_mixed (by kernel_rfl) (by kernel_rfl) ?_|refine zcm ?_|refine zcn ?_|(refine zap rfl ?_; first|refine reg_load_ds 0 rfl rfl (by omega) ?_|refine reg_store_ds 0 rfl rfl rfl (by omega) rfl ?_|refine zan rfl ?_|refine zan rfl ?_|refine zau rfl rfl (by omega) ?_|refine zav rfl rfl (by omega) ?_|refine zas rfl rfl (by omega) ?_)|refine zch ?_)
               refine zeq ⟨rfl, (u + 1, swp v u (u - 1)), ⟨rfl, rfl, rfl, rfl, rfl, rfl, zes (by first | rfl | omega | (dsimp only; omega)), trivial⟩, ⟨?_, by dsimp only; omega, by dsimp only; omega, ?_⟩, by dsimp only; omega⟩
               · rw [e3, e4]; rfl
               · rw [← h4, su_go hu (by simpa [ltStr] using hE)]
           · repeat' (first|refine zck ?_|refine zcp (by kernel_rfl) ?_|(refine zap rfl ?_; first|refine zan rfl ?_|refine zbh rfl rfl (by omega) ?_)|refine zch ?_|refine zcj rfl ?_)
             refine zer rfl rfl ?_
             refine zeq ⟨rfl, ⟨rfl, rfl, rfl, rfl, rfl, rfl, trivial⟩, ?_⟩
             rw [← h4, su_stop (fun h => absurd h hu)]
         · rw [if_neg (by omega)] at hd3
           repeat' (first|refine zcm ?_|(refine zap rfl ?_; first|refine reg_load_ds 0 rfl rfl (by omega) ?_)|refine zch ?_)
           refine zeq ⟨rfl, ⟨rfl, rfl, rfl, rfl, rfl, rfl, trivial⟩, ?_⟩
           rw [hd3]
       repeat' (first|refine zcp (by kernel_rfl) ?_|refine zcn ?_|(refine zap rfl ?_; first|refine zan rfl ?_|refine zan rfl ?_|refine zau rfl rfl (by omega) ?_)|refine zch ?_)
       refine zeq ⟨rfl, (s, j, d3), ⟨rfl, rfl, rfl, rfl, rfl, zes (by first | rfl | omega | (dsimp only; omega)), trivial⟩, ⟨rfl, by dsimp only; omega, by dsimp only; omega, by dsimp only; omega, g5⟩, by dsimp only; omega⟩
 · repeat' (first|refine zck ?_|refine zcp (by kernel_rfl) ?_|(refine zap rfl ?_; first|refine zan rfl ?_|refine zbh rfl rfl (by omega) ?_)|refine zch ?_|refine zcj rfl ?_)
   refine zer rfl rfl ?_
   repeat' (first|refine zck ?_|refine zcp (by kernel_rfl) ?_|(refine zap rfl ?_; first|refine zan rfl ?_)|refine zch ?_)
   have hs0 : s = 0 := by omega
   subst hs0
   refine zej rfl ⟨?_, (show [_] = [_] from ?_)⟩
   · rw [← g5]; rfl
   · rw [← g5]; rfl
end Go.Proofs.YtikackodhiollaaGreatDoor
namespace Go.Proofs.YtikackodhiollaaGreatDoor
variable (w0 : World)
open Go.Vc
open Go.Sort (ltStr order2 median medianAdjacent choosePivot Hint)
abbrev Swp (sw s : Nat) : Asn := pt sw (.cells (List.toArray [.int .i64 (s : Int)]) 3 (0, 0))
theorem o2_true {D : Array (List UInt8)} {a b s : Nat} (h : ltStr D[b]! D[a]! = true) : order2 ltStr D a b s = (b, a, s + 1) := by rw [order2, if_pos h]
theorem o2_false {D : Array (List UInt8)} {a b s : Nat} (h : ltStr D[b]! D[a]! = false) : order2 ltStr D a b s = (a, b, s) := by rw [order2, if_neg (by rw [h]; exact Bool.false_ne_true)]
theorem o2_lt {D : Array (List UInt8)} {a b s N : Nat} (ha : a < N) (hb : b < N) : (order2 ltStr D a b s).1 < N ∧ (order2 ltStr D a b s).2.1 < N ∧ (order2 ltStr D a b s).2.2 ≤ s + 1 := by
 cases h : ltStr D[b]! D[a]! with
 | true => rw [o2_true h]; exact ⟨hb, ha, Nat.le_refl _⟩
 | false => rw [o2_false h]; exact ⟨ha, hb, Nat.le_succ _⟩
theorem order2_spec (bb N cap : Nat) (D : Array (List UInt8)) (sw a b s : Nat) (_ : N ≤ 1152921504606846975) (ha : a < N) (hb : b < N) (hs : s ≤ 1000) :
   FnE PP w0 [] 164 [.slice (some ⟨bb, 0, none⟩) N cap, .int .i64 a, .int .i64 b, .pointer (some ⟨sw, 0, none⟩)] [DatS 9 bb N cap D, Swp sw s]
     (.tuple #[.int .i64 ((order2 ltStr D a b s).1 : Nat), .int .i64 ((order2 ltStr D a b s).2.1 : Nat)]) [DatS 9 bb N cap D, Swp sw (order2 ltStr D a b s).2.2] := by
 refine zep en164 fn164 rfl rfl rfl ?_
 have e1 : ((a : Nat) : Int).toNat = a := by omega
 have e2 : ((b : Nat) : Int).toNat = b := by omega
 repeat' (first|refine zck ?_|refine zcp (by kernel_rfl) ?_|refine zeh PP_mixed (by kernel_rfl) (by kernel_rfl) ?_|(refine zap rfl ?_; first|refine reg_load_ds 0 rfl rfl (by omega) ?_|refine zan rfl ?_|refine zan rfl ?_|refine zah [] (less_spec w0 _ _) rfl rfl rfl zdj rfl ?_|refine zas rfl rfl (by omega) ?_)|refine zch ?_)
 refine zed rfl (fun hE => ?_) (fun hE => ?_)
 · rw [e1, e2] at hE
   repeat' (first|refine zck ?_|refine zcp (by kernel_rfl) ?_|(refine zap rfl ?_; first|refine zan rfl ?_|refine zan rfl ?_|refine zab 1 rfl rfl rfl ?_|refine zau rfl rfl (by omega) ?_|refine zae 1 rfl rfl rfl rfl rfl rfl rfl ?_|refine zan rfl ?_)|refine zch ?_)
   rw [o2_true (by simpa [ltStr] using hE)]
   exact zei rfl ⟨rfl, rfl⟩
 · rw [e1, e2] at hE
   repeat' (first|refine zck ?_|refine zcp (by kernel_rfl) ?_|refine zcm ?_|(refine zap rfl ?_; first|refine zan rfl ?_|refine zan rfl ?_)|refine zch ?_)
   rw [o2_false (by simpa [ltStr] using hE)]
   exact zei rfl ⟨rfl, rfl⟩
theorem median_spec (bb N cap : Nat) (D : Array (List UInt8)) (sw s : Nat) (za zb zc : Int) (a b c : Nat) (hN : N ≤ 1152921504606846975) (ha : a < N) (hb : b < N) (hc : c < N) (hs : s ≤ 900) (e1 : za = a) (e2 : zb = b) (e3 : zc = c) :
   FnE PP w0 [] 148 [.slice (some ⟨bb, 0, none⟩) N cap, .int .i64 za, .int .i64 zb, .int .i64 zc, .pointer (some ⟨sw, 0, none⟩)] [DatS 9 bb N cap D, Swp sw s]
     (.int .i64 ((median ltStr D a b c s).1 : Nat)) [DatS 9 bb N cap D, Swp sw (median ltStr D a b c s).2] := by
 subst e1; subst e2; subst e3
 refine zep en148 fn148 rfl rfl rfl ?_
 have h1 := o2_lt (D := D) (s := s) ha hb
 have h2 := o2_lt (D := D) (s := (order2 ltStr D a b s).2.2) h1.2.1 hc
 have h3 := o2_lt (D := D) (s := (order2 ltStr D (order2 ltStr D a b s).2.1 c (order2 ltStr D a b s).2.2).2.2) h1.1 h2.1
 repeat' (first|refine zck ?_|refine zcp (by kernel_rfl) ?_|(refine zap rfl ?_; first|refine zan rfl ?_|refine zan rfl ?_|refine zah [0, 0] (order2_spec w0 bb N cap D sw _ _ _ hN (by omega) (by omega) (by omega)) rfl rfl rfl zdj rfl ?_|refine zan rfl ?_)|refine zch ?_)
 exact zej rfl ⟨rfl, rfl⟩
theorem median_lt {D : Array (List UInt8)} {a b c s N : Nat} (ha : a < N) (hb : b < N) (hc : c < N) : (median ltStr D a b c s).1 < N ∧ (median ltStr D a b c s).2 ≤ s + 3 := by
 have h1 := o2_lt (D := D) (s := s) ha hb
 have h2 := o2_lt (D := D) (s := (order2 ltStr D a b s).2.2) h1.2.1 hc
 have h3 := o2_lt (D := D) (s := (order2 ltStr D (order2 ltStr D a b s).2.1 c (order2 ltStr D a b s).2.2).2.2) h1.1 h2.1
 exact ⟨h3.2.1, by show (order2 ltStr D _ _ _).2.2 ≤ _; omega⟩
theorem adj_spec (bb N cap : Nat) (D : Array (List UInt8)) (sw s : Nat) (za : Int) (a : Nat) (hN : N ≤ 1152921504606846975) (ha : a + 1 < N) (h0 : 0 < a) (hs : s ≤ 900) (e1 : za = a) :
   FnE PP w0 [] 147 [.slice (some ⟨bb, 0, none⟩) N cap, .int .i64 za, .pointer (some ⟨sw, 0, none⟩)] [DatS 9 bb N cap D, Swp sw s]
     (.int .i64 ((medianAdjacent ltStr D a s).1 : Nat)) [DatS 9 bb N cap D, Swp sw (medianAdjacent ltStr D a s).2] := by
 subst e1
 refine zep en147 fn147 rfl rfl rfl ?_
 repeat' (first|refine zck ?_|refine zcp (by kernel_rfl) ?_|(refine zap rfl ?_; first|refine zan rfl ?_|refine zan rfl ?_|refine zah [0, 0] (median_spec w0 bb N cap D sw s _ _ _ (a - 1) a (a + 1) hN (by omega) (by omega) (by omega) hs (by omega) (by omega) (by omega)) rfl rfl rfl zdj rfl ?_|refine zau rfl rfl (by omega) ?_|refine zav rfl rfl (by omega) ?_)|refine zch ?_)
 exact zej rfl ⟨rfl, rfl⟩
end Go.Proofs.YtikackodhiollaaGreatDoor
namespace Go.Proofs.YtikackodhiollaaGreatDoor
variable (w0 : World)
open Go.Vc
open Go.Sort (ltStr order2 median medianAdjacent choosePivot Hint)
def hintI : Hint → Int
 | .unknown => 0
 | .increasing => 1
 | .decreasing => 2
def piv (D : Array (List UInt8)) (a b : Nat) : Nat × Nat :=
 if b - a ≥ 8 then
   if b - a ≥ 50 then
     median ltStr D (medianAdjacent ltStr D (a + (b - a) / 4 * 1) 0).1 (medianAdjacent ltStr D (a + (b - a) / 4 * 2) (medianAdjacent ltStr D (a + (b - a) / 4 * 1) 0).2).1
       (medianAdjacent ltStr D (a + (b - a) / 4 * 3) (medianAdjacent ltStr D (a + (b - a) / 4 * 2) (medianAdjacent ltStr D (a + (b - a) / 4 * 1) 0).2).2).1
       (medianAdjacent ltStr D (a + (b - a) / 4 * 3) (medianAdjacent ltStr D (a + (b - a) / 4 * 2) (medianAdjacent ltStr D (a + (b - a) / 4 * 1) 0).2).2).2
   else median ltStr D (a + (b - a) / 4 * 1) (a + (b - a) / 4 * 2) (a + (b - a) / 4 * 3) 0
 else (a + (b - a) / 4 * 2, 0)
theorem choose_eq (D : Array (List UInt8)) (a b : Nat) : choosePivot ltStr D a b = ((piv D a b).1, if (piv D a b).2 = 0 then .increasing else if (piv D a b).2 = 12 then .decreasing else .unknown) := rfl
set_option maxHeartbeats 4000000
theorem choose_spec (bb N cap : Nat) (D : Array (List UInt8)) (a b : Nat) (hN : N ≤ 1152921504606846975) (hab : a < b) (hb : b ≤ N) :
   Vc.Fn PP w0 [] 117 [.slice (some ⟨bb, 0, none⟩) N cap, .int .i64 a, .int .i64 b] [DatS 9 bb N cap D]
     fun v Γ => v = .tuple #[.int .i64 ((choosePivot ltStr D a b).1 : Nat), .int .i64 (hintI (choosePivot ltStr D a b).2)] ∧ ∃ sw s, Γ = [DatS 9 bb N cap D, Swp sw s] := by
 refine zep en117 fn117 rfl rfl rfl ?_
 obtain ⟨r, hr⟩ : ∃ r, r = piv D a b := ⟨_, rfl⟩
 repeat (first|refine zck ?_|refine zcl ?_|refine zcm ?_|refine zcn ?_)
 first|refine zcp (by kernel_rfl) ?_|refine zeh PP_mixed (by kernel_rfl) (by kernel_rfl) ?_
 repeat' (refine zap rfl ?_; first|refine zan rfl ?_)
 all_goals (refine zch ?_; repeat (first|refine zck ?_|refine zcl ?_|refine zcm ?_|refine zcn ?_))
 first|refine zcp (by kernel_rfl) ?_|refine zeh PP_mixed (by kernel_rfl) (by kernel_rfl) ?_
 repeat' (refine zap rfl ?_; first|refine zan rfl ?_|refine zav rfl rfl (by omega) ?_)
 all_goals (refine zch ?_; repeat (first|refine zck ?_|refine zcl ?_|refine zcm ?_|refine zcn ?_))
 first|refine zcp (by kernel_rfl) ?_|refine zeh PP_mixed (by kernel_rfl) (by kernel_rfl) ?_
 repeat' (refine zap rfl ?_; first|refine zar (fun nb => ?_))
 all_goals (refine zch ?_; repeat (first|refine zck ?_|refine zcl ?_|refine zcm ?_|refine zcn ?_))
 first|refine zcp (by kernel_rfl) ?_|refine zeh PP_mixed (by kernel_rfl) (by kernel_rfl) ?_
 repeat' (refine zap rfl ?_; first|refine zan rfl ?_|refine zau rfl rfl (by omega) ?_|refine zaw rfl rfl (by omega) ?_|refine zax rfl rfl (by omega) ?_)
 all_goals (refine zch ?_; repeat (first|refine zck ?_|refine zcl ?_|refine zcm ?_|refine zcn ?_))
 first|refine zcp (by kernel_rfl) ?_|refine zeh PP_mixed (by kernel_rfl) (by kernel_rfl) ?_
 repeat' (refine zap rfl ?_; first|refine zan rfl ?_|refine zau rfl rfl (by omega) ?_|refine zaw rfl rfl (by omega) ?_|refine zax rfl rfl (by omega) ?_)
 all_goals (refine zch ?_; repeat (first|refine zck ?_|refine zcl ?_|refine zcm ?_|refine zcn ?_))
 first|refine zcp (by kernel_rfl) ?_|refine zeh PP_mixed (by kernel_rfl) (by kernel_rfl) ?_
 repeat' (refine zap rfl ?_; first|refine zan rfl ?_|refine zau rfl rfl (by omega) ?_|refine zaw rfl rfl (by omega) ?_|refine zax rfl rfl (by omega) ?_)
 all_goals (refine zch ?_; repeat (first|refine zck ?_|refine zcl ?_|refine zcm ?_|refine zcn ?_))
 first|refine zcp (by kernel_rfl) ?_|refine zeh PP_mixed (by kernel_rfl) (by kernel_rfl) ?_
 repeat' (refine zap rfl ?_; first|refine zan rfl ?_|refine zbt rfl rfl ?_)
 all_goals (refine zch ?_; repeat (first|refine zck ?_|refine zcl ?_|refine zcm ?_|refine zcn ?_))
 refine run_bind_eq (l' := [(9, .pointer (some ⟨nb, 0, none⟩)), (11, .int .i64 (r.1 : Nat))]) (Γ' := [DatS 9 bb N cap D, Swp nb r.2]) ?_ (fun junk => ?_)
 · refine zed rfl (fun hc => ?_) (fun hc => ?_)
   · by_cases h50 : 50 ≤ b - a
     · have m1 := median_lt (D := D) (a := a + (b - a) / 4 * 1 - 1) (b := a + (b - a) / 4 * 1) (c := a + (b - a) / 4 * 1 + 1) (s := 0) (N := N) (by omega) (by omega) (by omega)
       obtain ⟨r1, hr1⟩ : ∃ r1, r1 = medianAdjacent ltStr D (a + (b - a) / 4 * 1) 0 := ⟨_, rfl⟩
       have m1 : r1.1 < N ∧ r1.2 ≤ 0 + 3 := by rw [hr1]; exact m1
       have m2 := median_lt (D := D) (a := a + (b - a) / 4 * 2 - 1) (b := a + (b - a) / 4 * 2) (c := a + (b - a) / 4 * 2 + 1) (s := r1.2) (N := N) (by omega) (by omega) (by omega)
       obtain ⟨r2, hr2⟩ : ∃ r2, r2 = medianAdjacent ltStr D (a + (b - a) / 4 * 2) r1.2 := ⟨_, rfl⟩
       have m2 : r2.1 < N ∧ r2.2 ≤ r1.2 + 3 := by rw [hr2]; exact m2
       have m3 := median_lt (D := D) (a := a + (b - a) / 4 * 3 - 1) (b := a + (b - a) / 4 * 3) (c := a + (b - a) / 4 * 3 + 1) (s := r2.2) (N := N) (by omega) (by omega) (by omega)
       obtain ⟨r3, hr3⟩ : ∃ r3, r3 = medianAdjacent ltStr D (a + (b - a) / 4 * 3) r2.2 := ⟨_, rfl⟩
       have m3 : r3.1 < N ∧ r3.2 ≤ r2.2 + 3 := by rw [hr3]; exact m3
       have hrr : r = median ltStr D r1.1 r2.1 r3.1 r3.2 := by rw [hr, piv, if_pos (by omega), if_pos h50, ← hr1, ← hr2, ← hr3]
       have A1 := adj_spec w0 bb N cap D nb 0 ((a : Int) + ((b : Int) - a) / 4 * 1) (a + (b - a) / 4 * 1) hN (by omega) (by omega) (by omega) (by omega)
       have A2 := adj_spec w0 bb N cap D nb r1.2 ((a : Int) + ((b : Int) - a) / 4 * 2) (a + (b - a) / 4 * 2) hN (by omega) (by omega) (by omega) (by omega)
       have A3 := adj_spec w0 bb N cap D nb r2.2 ((a : Int) + ((b : Int) - a) / 4 * 3) (a + (b - a) / 4 * 3) hN (by omega) (by omega) (by omega) (by omega)
       rw [← hr1] at A1; rw [← hr2] at A2; rw [← hr3] at A3
       have A4 := median_spec w0 bb N cap D nb r3.2 _ _ _ r1.1 r2.1 r3.1 hN (by omega) (by omega) (by omega) (by omega) rfl rfl rfl
       rw [← hrr] at A4
       repeat' (first|refine zck ?_|refine zcp (by kernel_rfl) ?_|(refine zap rfl ?_; first|refine zan rfl ?_|refine zan rfl ?_|refine zah [0, 0] A1 rfl rfl rfl zdj rfl ?_|refine zah [0, 0] A2 rfl rfl rfl zdj rfl ?_|refine zah [0, 0] A3 rfl rfl rfl zdj rfl ?_|refine zah [0, 0] A4 rfl rfl rfl zdj rfl ?_|refine zbm rfl rfl (by omega) ?_)|refine zch ?_|refine zci rfl ?_)
       refine zeq ⟨rfl, ⟨rfl, rfl, trivial⟩, rfl⟩
     · have A4 := median_spec w0 bb N cap D nb 0 ((a : Int) + ((b : Int) - a) / 4 * 1) ((a : Int) + ((b : Int) - a) / 4 * 2) ((a : Int) + ((b : Int) - a) / 4 * 3) (a + (b - a) / 4 * 1) (a + (b - a) / 4 * 2) (a + (b - a) / 4 * 3) hN (by omega) (by omega) (by omega) (by omega) (by omega) (by omega) (by omega)
       have hrr : r = median ltStr D (a + (b - a) / 4 * 1) (a + (b - a) / 4 * 2) (a + (b - a) / 4 * 3) 0 := by rw [hr, piv, if_pos (by omega), if_neg h50]
       rw [← hrr] at A4
       repeat' (first|refine zck ?_|refine zcp (by kernel_rfl) ?_|refine zcm ?_|(refine zap rfl ?_; first|refine zan rfl ?_|refine zan rfl ?_|refine zah [0, 0] A4 rfl rfl rfl zdj rfl ?_|refine zbn rfl rfl (by omega) ?_)|refine zch ?_|refine zcj rfl ?_)
       refine zeq ⟨rfl, ⟨rfl, rfl, trivial⟩, rfl⟩
   · have hrr : r = (a + (b - a) / 4 * 2, 0) := by rw [hr, piv, if_neg (by omega)]
     subst hrr
     repeat' (first|refine zcm ?_|(refine zap rfl ?_; first|refine zan rfl ?_)|refine zch ?_)
     refine zeq ⟨rfl, ⟨rfl, zes (by dsimp only; omega), trivial⟩, rfl⟩
 · repeat' (first|refine zck ?_|refine zcp (by kernel_rfl) ?_|refine zcl ?_|(refine zap rfl ?_; first|refine zan rfl ?_|refine zab 1 rfl rfl rfl ?_|refine zbo rfl rfl ?_)|refine zch ?_)
   rw [choose_eq, ← hr]
   refine zed rfl (fun h0 => ?_) (fun h0 => ?_)
   · repeat' (first|refine zck ?_|refine zcp (by kernel_rfl) ?_|(refine zap rfl ?_; first|refine zan rfl ?_|refine zan rfl ?_)|refine zch ?_)
     refine zei rfl ⟨?_, nb, r.2, rfl⟩
     rw [if_pos (by omega)]; rfl
   · repeat' (first|refine zck ?_|refine zcp (by kernel_rfl) ?_|(refine zap rfl ?_; first|refine zan rfl ?_|refine zbo rfl rfl ?_)|refine zch ?_)
     refine zed rfl (fun h1 => ?_) (fun h1 => ?_)
     · repeat' (first|refine zck ?_|refine zcp (by kernel_rfl) ?_|(refine zap rfl ?_; first|refine zan rfl ?_|refine zan rfl ?_)|refine zch ?_)
       refine zei rfl ⟨?_, nb, r.2, rfl⟩
       rw [if_neg (by omega), if_pos (by omega)]; rfl
     · repeat' (first|refine zck ?_|refine zcp (by kernel_rfl) ?_|(refine zap rfl ?_; first|refine zan rfl ?_|refine zan rfl ?_)|refine zch ?_)
       refine zei rfl ⟨?_, nb, r.2, rfl⟩
       rw [if_neg (by omega), if_neg (by omega)]; rfl
end Go.Proofs.YtikackodhiollaaGreatDoor
namespace Go.Proofs.YtikackodhiollaaGreatDoor
variable (w0 : World)
open Go.Vc
open Go.Sort (bitsLen xorNextN)
theorem bl_big (n : Nat) (h : 256 ≤ n) : bitsLen n = bitsLen (n / 256) + 8 := by
 have h1 : ∀ k, bitsLen n ≤ k + 8 ↔ bitsLen (n / 256) ≤ k := fun k => by
   rw [Go.Sort.bitsLen_le_iff, Go.Sort.bitsLen_le_iff, Nat.pow_add]; omega
 have h2 : ¬ bitsLen n ≤ 8 := by rw [Go.Sort.bitsLen_le_iff]; omega
 have h3 := (h1 (bitsLen n - 8)).1 (by omega)
 have h4 := (h1 (bitsLen (n / 256))).2 (Nat.le_refl _)
 omega
def tabOk (s : ByteArray) : Bool := (List.range 256).all fun i => match s[i]? with | some c => c.toNat == bitsLen i | none => false
section
variable {P : Program} {w0 : World} {n : Nat} {sh : Shared} {Q : Exit → Env → List Deferred → List Asn → Prop} {k : List Item} {ρ : Env} {df : List Deferred} {Γ : List Asn}
variable {ops : Array Oper} {l : List (Fl × Nat × Oper)} {b : Fl} {i d : Nat} {ty : TypeId} {pos : String} {aft : Array Edge}
theorem reg_len8 {x y : Operand} {t : TypeId} {kd : IntKind} {s : ByteArray} (X : Nat) {z : Int} [hT : TUnd P t .string] (hx : ev ρ x = .string s) (hs : tabOk s = true) (hy : ev ρ y = .int kd z) (hz : z = X) (hX : X < 256)
   (h : Reg P w0 n sh Q ops l k (ρ.set d (.int .u8 (bitsLen X : Nat))) df Γ) : Reg P w0 n sh Q ops ((b, i, ⟨some d, .index t x y, ty, pos, aft, none⟩) :: l) k ρ df Γ := by
 have h1 := List.all_eq_true.1 hs X (List.mem_range.2 hX)
 subst hz
 split at h1
 · rename_i c hc
   have h2 : c.toNat = bitsLen X := by simpa using h1
   exact reg_index_str hx hy (by omega) (c := c) (by simpa using hc) (by rw [h2]; exact h)
 · cases h1
end
theorem len64_spec (x : Nat) (hx : x < 65536) : FnE PP w0 [] 124 [.int .u64 x] [] (.int .i64 (bitsLen x : Nat)) [] := by
 refine zep en124 fn124 rfl rfl rfl ?_
 by_cases h : 256 ≤ x
 · have hb := (Go.Sort.bitsLen_le_iff (x / 256) 8).2 (by omega)
   repeat' (first|refine zck ?_|refine zcp (by kernel_rfl) ?_|refine zcm ?_|(refine zap rfl ?_; first|refine reg_shr_u64 8 256 rfl rfl rfl (by decide) rfl ?_|refine reg_convN ((x / 256 : Nat) : Int) rfl (by simp only [IntKind.wrap, IntKind.bits, IntKind.signed]; simp; omega) ?_|refine reg_len8 (x / 256) rfl (by kernel_rfl) rfl rfl (by omega) ?_|refine zan rfl ?_|refine zan rfl ?_|refine zbm rfl rfl (by omega) ?_|refine zbn rfl rfl (by omega) ?_|refine zau rfl rfl (by omega) ?_|refine zbz rfl (by omega) ?_)|refine zch ?_|refine zci rfl ?_|refine zcj rfl ?_)
   refine zej rfl ⟨zes ?_, rfl⟩
   rw [bl_big x h]; omega
 · have hb := (Go.Sort.bitsLen_le_iff x 8).2 (by omega)
   repeat' (first|refine zck ?_|refine zcp (by kernel_rfl) ?_|refine zcm ?_|(refine zap rfl ?_; first|refine reg_convN (x : Int) rfl (by simp only [IntKind.wrap, IntKind.bits, IntKind.signed]; simp; omega) ?_|refine reg_len8 x rfl (by kernel_rfl) rfl rfl (by omega) ?_|refine zan rfl ?_|refine zan rfl ?_|refine zbn rfl rfl (by omega) ?_|refine zau rfl rfl (by omega) ?_|refine zbz rfl (by omega) ?_)|refine zch ?_|refine zcj rfl ?_)
   refine zej rfl ⟨zes ?_, rfl⟩
   omega
theorem blen_spec (x : Nat) (hx : x < 65536) : FnE PP w0 [] 83 [.int .u64 x] [] (.int .i64 (bitsLen x : Nat)) [] := by
 refine zep en83 fn83 rfl rfl rfl ?_
 repeat' (first|refine zck ?_|refine zcp (by kernel_rfl) ?_|refine zcm ?_|(refine zap rfl ?_; first|refine zan rfl ?_|refine zan rfl ?_|refine zah [] (len64_spec w0 x hx) rfl rfl rfl zdj rfl ?_)|refine zch ?_|refine zcj rfl ?_)
 exact zej rfl ⟨rfl, rfl⟩
theorem npow_spec (x : Nat) (hx : x < 65536) : FnE PP w0 [] 145 [.int .i64 x] [] (.int .u64 ((1 <<< bitsLen x : Nat) : Int)) [] := by
 refine zep en145 fn145 rfl rfl rfl ?_
 have hb := (Go.Sort.bitsLen_le_iff x 16).2 (by omega)
 have hp : 2 ^ bitsLen x ≤ 2 ^ 16 := Nat.pow_le_pow_right (by decide) hb
 repeat' (first|refine zck ?_|refine zcp (by kernel_rfl) ?_|(refine zap rfl ?_; first|refine reg_convN (x : Int) rfl (by rw [IntKind.wrap_u64]; omega) ?_|refine reg_shl_u64 (X := 1) (bitsLen x) _ rfl rfl rfl (by omega) rfl ?_|refine zan rfl ?_|refine zan rfl ?_|refine zah [] (blen_spec w0 x hx) rfl rfl rfl zdj rfl ?_)|refine zch ?_)
 refine zej rfl ⟨zes ?_, rfl⟩
 rw [Nat.one_shiftLeft]; omega
theorem next_spec (rb X : Nat) (hX : X < 18446744073709551616) : FnE PP w0 [] 146 [.pointer (some ⟨rb, 0, none⟩)] [pt rb (.cells (List.toArray [.int .u64 (X : Int)]) 236 (0, 0))]
   (.int .u64 (xorNextN X : Nat)) [pt rb (.cells (List.toArray [.int .u64 (xorNextN X : Nat)]) 236 (0, 0))] := by
 refine zep en146 fn146 rfl rfl rfl ?_
 obtain ⟨A, hA⟩ : ∃ A : Nat, A = X ^^^ (X * 8192 % 18446744073709551616) := ⟨_, rfl⟩
 obtain ⟨B, hB⟩ : ∃ B : Nat, B = A ^^^ (A / 128) := ⟨_, rfl⟩
 have lA : A < 18446744073709551616 := by rw [hA]; exact Nat.xor_lt_two_pow (n := 64) (by omega) (by omega)
 have lB : B < 18446744073709551616 := by rw [hB]; exact Nat.xor_lt_two_pow (n := 64) (by omega) (by omega)
 repeat (first|refine zck ?_|refine zcl ?_|refine zcm ?_|refine zcn ?_)
 first|refine zcp (by kernel_rfl) ?_|refine zeh PP_mixed (by kernel_rfl) (by kernel_rfl) ?_
 repeat' (refine zap rfl ?_; first|refine zan rfl ?_)
 all_goals (refine zch ?_; repeat (first|refine zck ?_|refine zcl ?_|refine zcm ?_|refine zcn ?_))
 first|refine zcp (by kernel_rfl) ?_|refine zeh PP_mixed (by kernel_rfl) (by kernel_rfl) ?_
 repeat' (refine zap rfl ?_; first|refine reg_shl_u64 13 8192 rfl rfl rfl (by decide) rfl ?_|refine reg_xor_u64 rfl rfl (by omega) (by omega) ?_|refine zan rfl ?_|refine zab 0 rfl rfl rfl ?_|refine zae 0 rfl rfl rfl rfl rfl rfl rfl ?_)
 all_goals (refine zch ?_; repeat (first|refine zck ?_|refine zcl ?_|refine zcm ?_|refine zcn ?_))
 rw [← hA]
 repeat (first|refine zck ?_|refine zcl ?_|refine zcm ?_|refine zcn ?_)
 first|refine zcp (by kernel_rfl) ?_|refine zeh PP_mixed (by kernel_rfl) (by kernel_rfl) ?_
 repeat' (refine zap rfl ?_; first|refine reg_shr_u64 7 128 rfl rfl rfl (by decide) rfl ?_|refine reg_xor_u64 rfl rfl (by omega) (by omega) ?_|refine zan rfl ?_|refine zab 0 rfl rfl rfl ?_|refine zae 0 rfl rfl rfl rfl rfl rfl rfl ?_)
 all_goals (refine zch ?_; repeat (first|refine zck ?_|refine zcl ?_|refine zcm ?_|refine zcn ?_))
 rw [← hB]
 repeat (first|refine zck ?_|refine zcl ?_|refine zcm ?_|refine zcn ?_)
 first|refine zcp (by kernel_rfl) ?_|refine zeh PP_mixed (by kernel_rfl) (by kernel_rfl) ?_
 repeat' (refine zap rfl ?_; first|refine reg_shl_u64 17 131072 rfl rfl rfl (by decide) rfl ?_|refine reg_xor_u64 rfl rfl (by omega) (by omega) ?_|refine zan rfl ?_|refine zab 0 rfl rfl rfl ?_|refine zae 0 rfl rfl rfl rfl rfl rfl rfl ?_)
 all_goals (refine zch ?_; repeat (first|refine zck ?_|refine zcl ?_|refine zcm ?_|refine zcn ?_))
 repeat' (first|refine zcp (by kernel_rfl) ?_|(refine zap rfl ?_; first|refine zan rfl ?_|refine zan rfl ?_|refine zab 0 rfl rfl rfl ?_|refine zan rfl ?_)|refine zch ?_)
 have e : xorNextN X = B ^^^ (B * 131072 % 18446744073709551616) := by unfold xorNextN; simp only []; rw [← hA, ← hB]
 rw [e]
 exact zej rfl ⟨rfl, rfl⟩
end Go.Proofs.YtikackodhiollaaGreatDoor
namespace Go.Proofs.YtikackodhiollaaGreatDoor
variable (w0 : World)
open Go.Vc
open Go.Sort (swp bitsLen xorNextN xorNext breakStep breakPatterns)
section
variable {P : Program} {w0 : World} {n : Nat} {sh : Shared} {Q : Exit → Env → List Deferred → List Asn → Prop} {k : List Item} {ρ : Env} {df : List Deferred} {Γ : List Asn}
variable {ops : Array Oper} {l : List (Fl × Nat × Oper)} {b : Fl} {i d : Nat} {ty : TypeId} {pos : String} {aft : Array Edge}
theorem reg_sub_u64 {x y : Operand} {t yt : TypeId} {X : Nat} (Y : Nat) {z : Int} (hx : ev ρ x = .int .u64 (X : Int)) (hy : ev ρ y = .int .u64 z) (hz : z = Y) (hb : Y ≤ X) (hX : X < 18446744073709551616)
   (h : Reg P w0 n sh Q ops l k (ρ.set d (.int .u64 ((X - Y : Nat) : Int))) df Γ) : Reg P w0 n sh Q ops ((b, i, ⟨some d, .binOp .sub t x y yt, ty, pos, aft, none⟩) :: l) k ρ df Γ :=
 zev hx hy (by rw [IntKind.wrap_u64, hz, show ((X : Int) - (Y : Int)) % 18446744073709551616 = ((X - Y : Nat) : Int) by omega]; exact h)
end
def brk (a len m idx : Nat) (D : Array (List UInt8)) : Nat → UInt64 × Array (List UInt8)
 | 0 => (UInt64.ofNat len, D)
 | k + 1 => breakStep a len m (brk a len m idx D k) (idx + k)
theorem brk_eq {a b : Nat} {D : Array (List UInt8)} (h : 8 ≤ b - a) : breakPatterns D a b = (brk a (b - a) (1 <<< bitsLen (b - a)) (a + ((b - a) / 4) * 2 - 1) D 3).2 := by
 unfold breakPatterns
 simp only [ge_iff_le, h, if_true]
 rfl
theorem brk_step {a len m idx k : Nat} {D : Array (List UInt8)} {r : UInt64} {d : Array (List UInt8)} {o : Nat} (hk : brk a len m idx D k = (r, d)) (ho : o = if xorNextN r.toNat &&& (m - 1) ≥ len then (xorNextN r.toNat &&& (m - 1)) - len else xorNextN r.toNat &&& (m - 1)) :
   brk a len m idx D (k + 1) = (xorNext r, swp d (idx + k) (a + o)) := by
 rw [brk, hk, breakStep, ho]
 simp only [Go.Sort.xorNext_toNat]
set_option maxHeartbeats 4000000
theorem break_spec (bb N cap : Nat) (D : Array (List UInt8)) (a b : Nat) (hN : N < 65536) (hab : a + 8 ≤ b) (hb : b ≤ N) :
   Vc.Fn PP w0 [] 116 [.slice (some ⟨bb, 0, none⟩) N cap, .int .i64 a, .int .i64 b] [DatS 9 bb N cap D]
     fun v Γ => v = .tuple #[] ∧ ∃ rb x, Γ = [DatS 9 bb N cap (breakPatterns D a b), pt rb (.cells (List.toArray [.int .u64 (x : Int)]) 236 (0, 0))] := by
 refine zep en116 fn116 rfl rfl rfl ?_
 have hlen : (UInt64.ofNat (b - a)).toNat = b - a := by rw [UInt64.toNat_ofNat']; exact Nat.mod_eq_of_lt (by omega)
 obtain ⟨m, hm⟩ : ∃ m, m = 1 <<< bitsLen (b - a) := ⟨_, rfl⟩
 have hm1 : m ≤ 2 * (b - a) := by rw [hm, Nat.one_shiftLeft]; exact Go.Sort.two_pow_bitsLen_le (by omega)
 have hm0 : 0 < m := by rw [hm, Nat.one_shiftLeft]; exact Nat.pow_pos (by decide)
 have hP := npow_spec w0 (b - a) (by omega)
 rw [← hm] at hP
 have hsub : ((b : Int) - (a : Int)) = ((b - a : Nat) : Int) := by omega
 repeat (first|refine zck ?_|refine zcl ?_|refine zcm ?_|refine zcn ?_)
 first|refine zcp (by kernel_rfl) ?_|refine zcq PP_mixed (by kernel_rfl) (by kernel_rfl) ?_
 repeat' (refine zap rfl ?_; first|refine zan rfl ?_|refine zav rfl rfl (by omega) ?_)
 all_goals (refine zch ?_; repeat (first|refine zck ?_|refine zcl ?_|refine zcm ?_|refine zcn ?_))
 first|refine zcp (by kernel_rfl) ?_|refine zcq PP_mixed (by kernel_rfl) (by kernel_rfl) ?_
 repeat' (refine zap rfl ?_; first|refine zan rfl ?_|refine zbm rfl rfl (by omega) ?_)
 all_goals (refine zch ?_; repeat (first|refine zck ?_|refine zcl ?_|refine zcm ?_|refine zcn ?_))
 refine zci rfl ?_
 repeat refine zck ?_
 rw [hsub]
 repeat (first|refine zck ?_|refine zcl ?_|refine zcm ?_|refine zcn ?_)
 first|refine zcp (by kernel_rfl) ?_|refine zcq PP_mixed (by kernel_rfl) (by kernel_rfl) ?_
 repeat' (refine zap rfl ?_; first|refine reg_convN (((b - a : Nat) : Int)) rfl (by rw [IntKind.wrap_u64]; omega) ?_|refine zan rfl ?_|refine zae 1 rfl rfl rfl rfl rfl rfl rfl ?_|refine zar (fun nb => ?_))
 all_goals (refine zch ?_; repeat (first|refine zck ?_|refine zcl ?_|refine zcm ?_|refine zcn ?_))
 first|refine zcp (by kernel_rfl) ?_|refine zcq PP_mixed (by kernel_rfl) (by kernel_rfl) ?_
 repeat' (refine zap rfl ?_; first|refine zan rfl ?_|refine zah [] hP rfl rfl rfl zdj rfl ?_)
 all_goals (refine zch ?_; repeat (first|refine zck ?_|refine zcl ?_|refine zcm ?_|refine zcn ?_))
 first|refine zcp (by kernel_rfl) ?_|refine zcq PP_mixed (by kernel_rfl) (by kernel_rfl) ?_
 repeat' (refine zap rfl ?_; first|refine zan rfl ?_|refine zau rfl rfl (by omega) ?_|refine zav rfl rfl (by omega) ?_|refine zaw rfl rfl (by omega) ?_|refine zax rfl rfl (by omega) ?_)
 all_goals refine zch ?_
 all_goals repeat (refine zck ?_)
 refine zcl ?_
 refine run_loop (S := Nat × UInt64 × Array (List UInt8)) (fun s => [(0, .slice (some ⟨bb, 0, none⟩) N cap), (1, .int .i64 a), (6, .int .i64 ((b - a : Nat) : Int)), (7, .pointer (some ⟨nb, 0, none⟩)), (8, .int .u64 (m : Int)), (9, .int .i64 ((a + ((b - a) / 4) * 2 - 1 + s.1 : Nat) : Int))])
   (fun s Γ => Γ = [DatS 9 bb N cap s.2.2, pt nb (.cells (List.toArray [.int .u64 (s.2.1.toNat : Int)]) 236 (0, 0))] ∧ s.1 ≤ 3 ∧ brk a (b - a) m (a + ((b - a) / 4) * 2 - 1) D s.1 = s.2)
   (fun s => 3 - s.1) (0, UInt64.ofNat (b - a), D) ⟨rfl, rfl, rfl, rfl, rfl, zes (by first | rfl | omega | (dsimp only; omega)), trivial⟩ ⟨by rw [hlen]; rfl, by dsimp only; omega, rfl⟩ ?_
 rintro ⟨k, r, d⟩ Γ junk ⟨rfl, h1, h2⟩
 dsimp only at h1 h2 ⊢
 by_cases hk : k < 3
 · have hrl := Go.Sort.xorNextN_lt r.toNat r.toNat_lt
   have hN1 := next_spec w0 nb r.toNat r.toNat_lt
   obtain ⟨R, hR⟩ : ∃ R, R = xorNextN r.toNat := ⟨_, rfl⟩
   rw [← hR] at hN1 hrl
   obtain ⟨o, ho⟩ : ∃ o, o = R &&& (m - 1) := ⟨_, rfl⟩
   have hol : o ≤ m - 1 := by rw [ho]; exact Nat.and_le_right
   have hxr : (xorNext r).toNat = R := by rw [hR]; exact Go.Sort.xorNext_toNat r
   repeat (first|refine zck ?_|refine zcl ?_|refine zcm ?_|refine zcn ?_)
   first|refine zcp (by kernel_rfl) ?_|refine zeh PP_mixed (by kernel_rfl) (by kernel_rfl) ?_
   repeat' (refine zap rfl ?_; first|refine zan rfl ?_|refine zbi rfl rfl (by omega) ?_|refine zau rfl rfl (by omega) ?_|refine zaw rfl rfl (by omega) ?_|refine zax rfl rfl (by omega) ?_)
   all_goals (refine zch ?_; repeat (first|refine zck ?_|refine zcl ?_|refine zcm ?_|refine zcn ?_))
   refine zci rfl ?_
   repeat (first|refine zcm ?_|refine zcl ?_|refine zck ?_)
   repeat (first|refine zck ?_|refine zcl ?_|refine zcm ?_|refine zcn ?_)
   first|refine zcp (by kernel_rfl) ?_|refine zcq PP_mixed (by kernel_rfl) (by kernel_rfl) ?_
   repeat' (refine zap rfl ?_; first|refine reg_sub_u64 1 rfl rfl rfl (by omega) (by omega) ?_|refine reg_and_u64 rfl rfl (by omega) (by omega) ?_|refine zan rfl ?_|refine zah [1] hN1 rfl rfl rfl zdj rfl ?_|refine zbz rfl (by omega) ?_)
   all_goals (refine zch ?_; repeat (first|refine zck ?_|refine zcl ?_|refine zcm ?_|refine zcn ?_))
   rw [← ho]
   refine run_perm (List.Perm.swap _ _ _) ?_
   by_cases hq : b - a ≤ o
   · repeat' (first|refine zcp (by kernel_rfl) ?_|refine zeh PP_mixed (by kernel_rfl) (by kernel_rfl) ?_|refine zcn ?_|(refine zap rfl ?_; first|refine reg_load_ds 0 rfl rfl (by omega) ?_|refine reg_store_ds 0 rfl rfl rfl (by omega) rfl ?_|refine zan rfl ?_|refine zan rfl ?_|refine zbm rfl rfl (by omega) ?_|refine zau rfl rfl (by omega) ?_|refine zav rfl rfl (by omega) ?_|refine zas rfl rfl (by omega) ?_)|refine zch ?_|refine zci rfl ?_)
     have e1 : ((a + (b - a) / 4 * 2 - 1 + k : Nat) : Int).toNat = a + (b - a) / 4 * 2 - 1 + k := by omega
     have e2 : ((a : Int) + ((o : Int) - ((b - a : Nat) : Int))).toNat = a + (o - (b - a)) := by omega
     refine zeq ⟨rfl, (k + 1, xorNext r, swp d (a + (b - a) / 4 * 2 - 1 + k) (a + (o - (b - a)))), ⟨rfl, rfl, rfl, rfl, rfl, zes (by first | rfl | omega | (dsimp only; omega)), trivial⟩, ⟨?_, by dsimp only; omega, ?_⟩, by dsimp only; omega⟩
     · rw [hxr, e1, e2]; rfl
     · exact brk_step h2 (by rw [← hR, ← ho, if_pos hq])
   · repeat' (first|refine zcp (by kernel_rfl) ?_|refine zeh PP_mixed (by kernel_rfl) (by kernel_rfl) ?_|refine zcm ?_|refine zcn ?_|(refine zap rfl ?_; first|refine reg_load_ds 0 rfl rfl (by omega) ?_|refine reg_store_ds 0 rfl rfl rfl (by omega) rfl ?_|refine zan rfl ?_|refine zan rfl ?_|refine zbn rfl rfl (by omega) ?_|refine zau rfl rfl (by omega) ?_|refine zas rfl rfl (by omega) ?_)|refine zch ?_|refine zcj rfl ?_)
     have e1 : ((a + (b - a) / 4 * 2 - 1 + k : Nat) : Int).toNat = a + (b - a) / 4 * 2 - 1 + k := by omega
     have e2 : ((a : Int) + (o : Int)).toNat = a + o := by omega
     refine zeq ⟨rfl, (k + 1, xorNext r, swp d (a + (b - a) / 4 * 2 - 1 + k) (a + o)), ⟨rfl, rfl, rfl, rfl, rfl, zes (by first | rfl | omega | (dsimp only; omega)), trivial⟩, ⟨?_, by dsimp only; omega, ?_⟩, by dsimp only; omega⟩
     · rw [hxr, e1, e2]; rfl
     · exact brk_step h2 (by rw [← hR, ← ho, if_neg hq])
 · repeat' (first|refine zck ?_|refine zcp (by kernel_rfl) ?_|(refine zap rfl ?_; first|refine zan rfl ?_|refine zbj rfl rfl (by omega) ?_|refine zau rfl rfl (by omega) ?_|refine zaw rfl rfl (by omega) ?_|refine zax rfl rfl (by omega) ?_)|refine zch ?_|refine zcj rfl ?_)
   refine zer rfl rfl ?_
   repeat' (first|refine zck ?_|(refine zap rfl ?_; first|refine zan rfl ?_)|refine zch ?_)
   have hk3 : k = 3 := by omega
   subst hk3
   refine end_tmp0 rfl ⟨rfl, nb, r.toNat, ?_⟩
   rw [brk_eq (by omega), ← hm, h2]
end Go.Proofs.YtikackodhiollaaGreatDoor
namespace Go.Proofs.YtikackodhiollaaGreatDoor
variable (w0 : World)
open Go.Vc
open Go.Sort (ltStr swp bitsLen Hint insertionSort heapSort breakPatterns choosePivot reverseRange partialInsertionSort partitionEqual partition pdq)
theorem fn_drop {P : Program} {w0 : World} {sh : Shared} {f : FuncId} {args : List Value} {Γ Γ1 : List Asn} {R : Value → List Asn → Prop} {v : Value} (h : Vc.Fn P w0 sh f args Γ R) (hR : ∀ v' Γ', R v' Γ' → v' = v ∧ ∃ Γr, Γ' = Γ1 ++ Γr) :
   FnE P w0 sh f args Γ v Γ1 :=
 ⟨h.enters, fun hF w hsh hst => (h.calls hF w hsh hst).mono (by
   rintro e w' ⟨v', Γ', he, hr, hst'⟩
   obtain ⟨rfl, Γr, rfl⟩ := hR _ _ hr
   exact ⟨_, Γ1, he, ⟨rfl, rfl⟩, hst'.left⟩)⟩
theorem choose_specE (bb N cap : Nat) (D : Array (List UInt8)) (a b : Nat) (hN : N ≤ 1152921504606846975) (hab : a < b) (hb : b ≤ N) :
   FnE PP w0 [] 117 [.slice (some ⟨bb, 0, none⟩) N cap, .int .i64 a, .int .i64 b] [DatS 9 bb N cap D]
     (.tuple #[.int .i64 ((choosePivot ltStr D a b).1 : Nat), .int .i64 (hintI (choosePivot ltStr D a b).2)]) [DatS 9 bb N cap D] :=
 fn_drop (choose_spec w0 bb N cap D a b hN hab hb) (by rintro v Γ ⟨h1, sw, s, h2⟩; exact ⟨h1, [Swp sw s], h2⟩)
theorem break_specE (bb N cap : Nat) (D : Array (List UInt8)) (a b : Nat) (hN : N < 65536) (hab : a + 8 ≤ b) (hb : b ≤ N) :
   FnE PP w0 [] 116 [.slice (some ⟨bb, 0, none⟩) N cap, .int .i64 a, .int .i64 b] [DatS 9 bb N cap D]
     (.tuple #[]) [DatS 9 bb N cap (breakPatterns D a b)] :=
 fn_drop (break_spec w0 bb N cap D a b hN hab hb) (by rintro v Γ ⟨h1, rb, x, h2⟩; exact ⟨h1, [_], h2⟩)
theorem hintI_two {h : Hint} : hintI h = 2 ↔ h = .decreasing := by cases h <;> simp [hintI]
theorem hintI_one {h : Hint} : hintI h = 1 ↔ h = .increasing := by cases h <;> simp [hintI]
theorem pdq_small {d : Array (List UInt8)} {a b limit : Nat} {wb wp : Bool} (h : b - a ≤ 12) : pdq ltStr d a b limit wb wp = insertionSort ltStr d a b := by
 rw [pdq, if_pos h]
theorem pdq_heap {d : Array (List UInt8)} {a b : Nat} {wb wp : Bool} (h : ¬ b - a ≤ 12) : pdq ltStr d a b 0 wb wp = heapSort ltStr d a b := by
 rw [pdq, if_neg h, if_pos rfl]
theorem pdq_unf {d d1 d2 : Array (List UInt8)} {a b limit lim pv : Nat} {wb wp : Bool} {c : Nat × Hint} {hint : Hint} {pi : Array (List UInt8) × Bool} (h12 : ¬ b - a ≤ 12) (h0 : limit ≠ 0)
   (hd1 : d1 = if !wb then breakPatterns d a b else d) (hlim : lim = if !wb then limit - 1 else limit) (hc : c = choosePivot ltStr d1 a b) (hd2 : d2 = if c.2 = .decreasing then reverseRange d1 a b else d1)
   (hpv : pv = if c.2 = .decreasing then (b - 1) - (c.1 - a) else c.1) (hh : hint = if c.2 = .decreasing then .increasing else c.2) (hpi : pi = if wb && wp && hint = .increasing then partialInsertionSort ltStr d2 a b else (d2, false)) :
   pdq ltStr d a b limit wb wp = if pi.2 then pi.1 else
     if a > 0 && !ltStr pi.1[a - 1]! pi.1[pv]! then
       match partitionEqual ltStr pi.1 a b pv with
       | (mid, d4) => if _h : a < mid ∧ mid ≤ b then pdq ltStr d4 mid b lim wb wp else d4
     else
       match partition ltStr pi.1 a b pv with
       | (mid, ap, d4) =>
         if _h : a ≤ mid ∧ mid < b then
           if mid - a < b - mid then pdq ltStr (pdq ltStr d4 a mid lim true true) (mid + 1) b lim (decide (mid - a ≥ (b - a) / 8)) ap
           else pdq ltStr (pdq ltStr d4 (mid + 1) b lim true true) a mid lim (decide (b - mid ≥ (b - a) / 8)) ap
         else d4 := by
 subst hd1; subst hlim; subst hc; subst hd2; subst hpv; subst hh; subst hpi
 rw [pdq]
 simp only [h12, h0, if_false]
theorem parteq_range {d : Array (List UInt8)} {a b pv : Nat} (h1 : a ≤ pv) (h2 : pv < b) (hb : b ≤ d.size) : a < (partitionEqual ltStr d a b pv).1 ∧ (partitionEqual ltStr d a b pv).1 ≤ b := by
 have hb0 : b ≤ (swp d a pv).size := by rw [Go.Sort.size_swp]; exact hb
 obtain ⟨r1, r2, _⟩ := Go.Sort.partEqLoop_spec ltStr a b _ (a + 1) (b - 1) (swp d a pv) (Nat.le_refl _) (Nat.lt_succ_self a) (by omega) (by omega) hb0 (fun t h1 h2 => by omega) (fun t h1 h2 => by omega)
 exact ⟨r1, r2⟩
theorem part_range {d : Array (List UInt8)} {a b pv : Nat} (h1 : a ≤ pv) (h2 : pv < b) (hb : b ≤ d.size) : a ≤ (partition ltStr d a b pv).1 ∧ (partition ltStr d a b pv).1 < b := by
 obtain ⟨r1, r2, _⟩ := Go.Sort.partition_holds ltStr Go.Sort.swo_ltStr d a b pv h1 h2 hb
 exact ⟨r1, r2⟩
end Go.Proofs.YtikackodhiollaaGreatDoor
