/- Joined by a program of this session out of its texts, with only what the last theorem needs: Dx11. No conditions but those stated. -/
import Derived.Test.YtkdpcgmnkifbbaaGreatDoorZC07
import Derived.Test.YtkdpcgmnkifbbaaGreatDoorZC29
set_option linter.unusedVariables false
set_option linter.unusedSimpArgs false
namespace Go.Proofs.YtkdpcgmnkifbbaaGreatDoorW.PrintLast
end Go.Proofs.YtkdpcgmnkifbbaaGreatDoorW.PrintLast
namespace Go.Proofs.YtkdpcgmnkifbbaaGreatDoorW.PrintMore
end Go.Proofs.YtkdpcgmnkifbbaaGreatDoorW.PrintMore
namespace Go.Proofs.YtkdpcgmnkifbbaaGreatDoorW.PrintWords
end Go.Proofs.YtkdpcgmnkifbbaaGreatDoorW.PrintWords
namespace Go.Proofs.YtkdpcgmnkifbbaaGreatDoor.D
open Go.RowKit Go.Proofs.YtkdpcgmnkifbbaaGreatDoorW.PrintWords Go.Proofs.YtkdpcgmnkifbbaaGreatDoorW.PrintLast Go.Proofs.YtkdpcgmnkifbbaaGreatDoorW.PrintMore
attribute [local go_sem] max2_int min2_int max_two min_two max_three min_three max_four min_four
set_option linter.unusedVariables false
set_option linter.unusedSimpArgs false
mutual
def metrolabref26_Gathered.l0 : Nat → List (S60) → List (S60) → Int → Option ((List (S60)))
 | 0, _, _, _ => none
 | k + 1, x0, x3, x4 => if x4 < (x0.length : Int) then (metrolabref26_Gathered.l1 k x0 x3 x4 0) else (metrolabref26_Gathered.l2 k x3 ([] : List (S60)) 0)
def metrolabref26_Gathered.l1 : Nat → List (S60) → List (S60) → Int → Int → Option ((List (S60)))
 | 0, _, _, _, _ => none
 | k + 1, x0, x3, x4, x5 => if x5 < (x3.length : Int) then (if 0 ≤ x5 then (if 0 ≤ x4 then (if x4 < (x0.length : Int) then (if ((rd_T60 x3 x5).f0) < ((rd_T60 x0 x4).f0) then (metrolabref26_Gathered.l1 k x0 x3 x4 (wrap64 (x5 + 1))) else (if ((rd_T60 x3 x5).f0) = ((rd_T60 x0 x4).f0) then ((metrolabref01_Plus.f ((rd_T60 x3 x5).f1) ((rd_T60 x0 x4).f1)).bind fun t324 => (metrolabref26_Gathered.l0 k x0 (x3.set (x5 : Int).toNat (⟨(rd_T60 x3 x5).f0, t324⟩ : S60)) (wrap64 (x4 + 1)))) else ((some (([] : List (S60)) : List (S60))).bind fun y326 => (if x5 ≤ (x3.length : Int) then ((some (x3.take (x5 : Int).toNat : List (S60))).bind fun y329 => (if y326.length + y329.length < 5864062014805 then ((some (y326 ++ y329 : List (S60))).bind fun y333 => (if y333.length < 5864062014805 then ((some (y333 ++ [(⟨(rd_T60 x0 x4).f0, (rd_T60 x0 x4).f1⟩ : S60)] : List (S60))).bind fun y337 => ((some (x3.drop (x5 : Int).toNat : List (S60))).bind fun y340 => (if y337.length + y340.length < 5864062014805 then (metrolabref26_Gathered.l0 k x0 (y337 ++ y340) (wrap64 (x4 + 1))) else (none)))) else (none))) else (none))) else (none))))) else (none)) else (none)) else (none)) else ((some (([] : List (S60)) : List (S60))).bind fun y347 => (if 0 ≤ x5 then (if x5 ≤ (x3.length : Int) then ((some (x3.take (x5 : Int).toNat : List (S60))).bind fun y350 => (if y347.length + y350.length < 5864062014805 then ((some (y347 ++ y350 : List (S60))).bind fun y354 => (if 0 ≤ x4 then (if x4 < (x0.length : Int) then (if y354.length < 5864062014805 then ((some (y354 ++ [(⟨(rd_T60 x0 x4).f0, (rd_T60 x0 x4).f1⟩ : S60)] : List (S60))).bind fun y358 => ((some (x3.drop (x5 : Int).toNat : List (S60))).bind fun y361 => (if y358.length + y361.length < 5864062014805 then (metrolabref26_Gathered.l0 k x0 (y358 ++ y361) (wrap64 (x4 + 1))) else (none)))) else (none)) else (none)) else (none))) else (none))) else (none)) else (none)))
def metrolabref26_Gathered.l2 : Nat → List (S60) → List (S60) → Int → Option ((List (S60)))
 | 0, _, _, _ => none
 | k + 1, x3, x7, x8 => if x8 < (x3.length : Int) then (if 0 ≤ x8 then (if ((rd_T60 x3 x8).f1).toList = ([48] : List UInt8) then (metrolabref26_Gathered.l2 k x3 x7 (wrap64 (x8 + 1))) else (if x7.length < 5864062014805 then (metrolabref26_Gathered.l2 k x3 (x7 ++ [(⟨(rd_T60 x3 x8).f0, (rd_T60 x3 x8).f1⟩ : S60)]) (wrap64 (x8 + 1))) else (none))) else (none)) else (some x7)
end
def metrolabref26_Gathered.f (k : Nat) (l0 : List (S60)) : Option ((List (S60))) := metrolabref26_Gathered.l0 k l0 ([] : List (S60)) 0
def metrolabref26_Gathered.T6 : Bool × List (List Nat × List Nat) := (true, [([], []), ([], []), ([1], [1]), ([0, 2], [0, 2]), ([3], [3]), ([4], [4]), ([4], [4]), ([5, 6, 4], [4, 5, 6]), ([7, 4], [4, 7]), ([8, 4], [4, 8]), ([4], [4]), ([4], [4]), ([10, 11, 4], [4, 10, 11]), ([12, 4], [4, 12]), ([13, 4], [4, 13]), ([9, 14, 4], [4, 9, 14]), ([4, 15], [4, 15])])
def metrolabref26_Gathered.B6 : List Nat := [0, 0, 2, 7, 15, 31, 31, 127, 255, 511, 31, 31, 3103, 7199, 15391, 32767, 65535]
theorem metrolabref26_Gathered.tab6 : rtab .any (opsOf Tryz.f100 6) = metrolabref26_Gathered.T6 := by kernel_rfl
theorem metrolabref26_Gathered.bits6 : waitsOk metrolabref26_Gathered.T6.2 metrolabref26_Gathered.B6 = true := by kernel_rfl
def metrolabref26_Gathered.T8 : Bool × List (List Nat × List Nat) := (true, [([], []), ([], []), ([1], [1]), ([0, 2], [0, 2]), ([3], [3]), ([4], [4]), ([4], [4]), ([5, 6, 4], [4, 5, 6]), ([7, 4], [4, 7]), ([8, 4], [4, 8]), ([4], [4]), ([4], [4]), ([10, 11, 4], [4, 10, 11]), ([12, 4], [4, 12]), ([13, 4], [4, 13]), ([9, 14, 4], [4, 9, 14]), ([4, 15], [4, 15])])
def metrolabref26_Gathered.B8 : List Nat := [0, 0, 2, 7, 15, 31, 31, 127, 255, 511, 31, 31, 3103, 7199, 15391, 32767, 65535]
theorem metrolabref26_Gathered.tab8 : rtab .any (opsOf Tryz.f100 8) = metrolabref26_Gathered.T8 := by kernel_rfl
theorem metrolabref26_Gathered.bits8 : waitsOk metrolabref26_Gathered.T8.2 metrolabref26_Gathered.B8 = true := by kernel_rfl
def metrolabref26_Gathered.T9 : Bool × List (List Nat × List Nat) := (true, [([], []), ([], []), ([], []), ([], []), ([2, 3], [2, 3]), ([4], [4]), ([5], [5]), ([], []), ([], []), ([7, 8], [7, 8]), ([9], [9]), ([10], [10]), ([6, 11], [6, 11]), ([0, 1, 0, 1, 2, 3, 4, 5, 6, 7, 8, 9, 10, 11, 12], [0, 1]), ([13, 0, 1, 2, 3, 4, 5, 6, 7, 8, 9, 10, 11, 12], [13]), ([14, 12, 12, 0, 1, 2, 3, 4, 5, 6, 7, 8, 9, 10, 11, 12], [12, 14])])
def metrolabref26_Gathered.B9 : List Nat := [0, 0, 0, 0, 12, 28, 60, 0, 0, 384, 896, 1920, 4092, 8191, 16383, 32767]
theorem metrolabref26_Gathered.tab9 : rtab .any (opsOf Tryz.f100 9) = metrolabref26_Gathered.T9 := by kernel_rfl
theorem metrolabref26_Gathered.bits9 : waitsOk metrolabref26_Gathered.T9.2 metrolabref26_Gathered.B9 = true := by kernel_rfl
def metrolabref26_Gathered.T11 : Bool × List (List Nat × List Nat) := (true, [([], []), ([], []), ([], []), ([1, 2], [1, 2]), ([3], [3]), ([4], [4]), ([0, 5], [0, 5]), ([], []), ([], []), ([7, 8], [7, 8]), ([6, 9, 6], [6, 9]), ([10, 10, 0, 1, 2, 3, 4, 5, 6, 7, 8, 9, 10], [7, 10])])
def metrolabref26_Gathered.B11 : List Nat := [0, 0, 0, 6, 14, 30, 63, 0, 0, 384, 1023, 2047]
theorem metrolabref26_Gathered.tab11 : rtab .any (opsOf Tryz.f100 11) = metrolabref26_Gathered.T11 := by kernel_rfl
theorem metrolabref26_Gathered.bits11 : waitsOk metrolabref26_Gathered.T11.2 metrolabref26_Gathered.B11 = true := by kernel_rfl
set_option maxHeartbeats 8000000 in
set_option maxRecDepth 100000 in
theorem metrolabref26_Gathered.calls (k : Nat) (A0 : Option Addr) (c0 : Nat) (l0 : List (S60)) (r : List (S60)) (w : World) (hr0 : Kd.C k60 w A0 l0.length l0) (hc0 : l0.length ≤ c0) (h : metrolabref26_Gathered.f k l0 = some r) :
  Calls Tryz.prog 100 #[.slice A0 l0.length c0] w fun e w' => ∃ v0_ : Value, e = .returned (v0_) ∧ Kd.R k60 60 w' w.heap.size (fun _ => True) v0_ r ∧ Below w.heap.size w w' := by
 have hu60 := Tryz.underlying60
 have HR0 := Aside0.mk hr0
 have HC0 := Aside0.mk hc0
 clear hr0 hc0
 have HB := Aside0.mk (Below.refl w.heap.size w)
 have H : (metrolabref26_Gathered.l0 k l0 ([] : List (S60)) 0) = some r := h
 clear h
 have H' := Aside0.mk H
 clear H
 go_enter Tryz.func100, Tryz.ntmps100
 go_wp2
 go_loopg [3, 4] k (fun kq v3 v4 w' => ∃ (x3_1 : List (S60)) (x4_1 : Int), v4 = .int .i64 x4_1 ∧ Aside0 (metrolabref26_Gathered.l0 kq l0 x3_1 x4_1 = some r) ∧ Aside0 (kq ≤ k) ∧ Aside0 (Kd.R k60 60 w' w.heap.size (fun _ => True) v3 x3_1) ∧ Aside0 (Below w.heap.size w w'))
 case atStart => exact ⟨(([] : List (S60))), (0), z25_, H', ⟨Nat.le_refl _⟩, ⟨by first | exact Kd.R_nil _ _ _ _ _ | exact Kd.N_nil _ _ _ _ _ | exact Kd.V_nil _ _ _ _ _ | exact Kd.Q_nil _ _ _ _ _ | exact Kd.S_nil _ _ _ _ _⟩, ⟨by repeat (first | (with_reducible first | exact HB.out | apply below_alloc | apply pw_below_drewN | apply below_drew1) | exact HB.out)⟩⟩
 case round =>
  clear H'
  try clear c1
  obtain ⟨x3_1, x4_1, rfl, HA, HK1, HO_3, HB⟩ := hrel
  cases gk with
  | zero => exact absurd HA.out (by simp [metrolabref26_Gathered.l0])
  | succ k1 =>
   have H := HA.out
   clear HA
   simp only [metrolabref26_Gathered.l0] at H
   by_cases c2 : x4_1 < (l0.length : Int)
   ·rw [if_pos c2] at H
    have c2b0 : decide (x4_1 < (l0.length : Int)) = true := decide_eq_true c2
    clear c2
    have H' := Aside0.mk H
    clear H
    go_wp2
    go_loopg [5] k1 (fun kq v5 w' => ∃ (x5_2 : Int), v5 = .int .i64 x5_2 ∧ Aside0 (metrolabref26_Gathered.l1 kq l0 x3_1 x4_1 x5_2 = some r) ∧ Aside0 (kq ≤ k1) ∧ Aside0 (Kd.R k60 60 w' w.heap.size (fun _ => True) u3 x3_1) ∧ Aside0 (Below w.heap.size w w'))
    case atStart => exact ⟨(0), z25_, H', ⟨Nat.le_refl _⟩, ⟨by (with_reducible repeat (first | apply Kd.R_alloc | apply Kd.R_drewN | apply Kd.R_drew)); first | exact HO_3.out | (simp only [w64_m256]; exact HO_3.out)⟩, ⟨by repeat (first | (with_reducible first | exact HB.out | apply below_alloc | apply pw_below_drewN | apply below_drew1) | exact HB.out)⟩⟩
    case round =>
     clear H'
     try clear c1
     try clear c2
     try clear c2b0
     try clear p2
     obtain ⟨x5_2, rfl, HA, HK2, HO_3, HB⟩ := hrel
     cases gk with
     | zero => exact absurd HA.out (by simp [metrolabref26_Gathered.l1])
     | succ k2 =>
      have H := HA.out
      clear HA
      simp only [metrolabref26_Gathered.l1] at H
      by_cases c3 : x5_2 < (x3_1.length : Int)
      ·rw [if_pos c3] at H
       have c3b0 : decide (x5_2 < (x3_1.length : Int)) = true := decide_eq_true c3
       clear c3
       by_cases c4 : 0 ≤ x5_2
       ·rw [if_pos c4] at H
        have c4b0 : decide (0 ≤ x5_2) = true := decide_eq_true c4
        clear c4
        by_cases c5 : 0 ≤ x4_1
        ·rw [if_pos c5] at H
         have c5b0 : decide (0 ≤ x4_1) = true := decide_eq_true c5
         clear c5
         by_cases c6 : x4_1 < (l0.length : Int)
         ·rw [if_pos c6] at H
          have c6b0 : decide (x4_1 < (l0.length : Int)) = true := decide_eq_true c6
          clear c6
          by_cases c7 : ((rd_T60 x3_1 x5_2).f0) < ((rd_T60 l0 x4_1).f0)
          ·rw [if_pos c7] at H
           have c7b0 : decide (((rd_T60 x3_1 x5_2).f0) < ((rd_T60 l0 x4_1).f0)) = true := decide_eq_true c7
           clear c7
           have H' := Aside0.mk H
           clear H
           try go_wp2
           have n0_ := Aside0.mk (Kd.R_drew HO_3.out)
           have n1_ := Aside0.mk (below_drew1 HB.out)
           clear HO_3
           clear HB
           have HO_3 := n0_
           have HB := n1_
           clear n0_ n1_
           obtain ⟨Ao9, co9, eo9⟩ := Kd.R_slice HO_3.out
           (first | subst eo9 | (injection eo9 with f1_ f2_ f3_; have f4_ := f1_.symm; have f5_ := f3_.symm; clear f1_ f2_ f3_; subst f4_; subst f5_))
           have p318 : 0 ≤ (x5_2 : Int) := of_decide_eq_true z26_
           have q318 : x5_2 < (x3_1.length : Int) := of_decide_eq_true z26_
           obtain ⟨ad318, e318, hx318_0, hx318_1⟩ := at_T60 (Kd.R_reads' HO_3.out).2.2 x5_2 p318 q318
           cases e318
           replace p318 := eq_true p318
           replace q318 := eq_true q318
           have p319 : 0 ≤ (x4_1 : Int) := of_decide_eq_true z26_
           have q319 : x4_1 < (l0.length : Int) := of_decide_eq_true z26_
           obtain ⟨ad319, e319, hx319_0, hx319_1⟩ := at_T60 HR0.out x4_1 p319 q319
           have hw319_1 := hx319_1
           have hw319_0 := hx319_0
           cases e319
           replace hx319_0 := (HB.out.cell (World.block_lt_of_cell? w _ hx319_0)).trans hx319_0
           replace hx319_1 := (HB.out.cell (World.block_lt_of_cell? w _ hx319_1)).trans hx319_1
           replace p319 := eq_true p319
           replace q319 := eq_true q319
           refine start_ (n := 17) (S := fun w' => w'.cell? (ad318.add ((x5_2).toNat * 2)) = some (.int .i64 ((rd_T60 x3_1 x5_2).f0)) ∧ w'.cell? ⟨(ad318.add ((x5_2).toNat * 2)).block, (ad318.add ((x5_2).toNat * 2)).off + 1, none⟩ = some (.string ((rd_T60 x3_1 x5_2).f1)) ∧ w'.cell? (ad319.add ((x4_1).toNat * 2)) = some (.int .i64 ((rd_T60 l0 x4_1).f0)) ∧ w'.cell? ⟨(ad319.add ((x4_1).toNat * 2)).block, (ad319.add ((x4_1).toNat * 2)).off + 1, none⟩ = some (.string ((rd_T60 l0 x4_1).f1))) (ds := []) #[false, false, false, false, false, false, false, false, false, false, false, false, false, false, false, false, false] (by kernel_rfl) rfl rfl ⟨hx318_0, hx318_1, ((HB.out.cell (World.block_lt_of_cell? w _ hw319_0)).trans hw319_0), ((HB.out.cell (World.block_lt_of_cell? w _ hw319_1)).trans hw319_1)⟩ (fun hHeld => ?_); refine with_tabW metrolabref26_Gathered.tab6 metrolabref26_Gathered.bits6 (fun HT_ HW_ => ?_)
           generalize wr.drew = w8 at HO_3 HB hx318_0 hx318_1 hx319_0 hx319_1 hHeld ⊢
           refine pu_ (i := 0) (N := some 15) #[true, false, false, false, false, false, false, false, false, false, false, false, false, false, false, false, false] HT_.out ?_
           refine pu_ (i := 1) (N := some 16) #[true, true, false, false, false, false, false, false, false, false, false, false, false, false, false, false, false] HT_.out ?_
           refine pu_ (i := 2) (N := some 17) #[true, true, true, false, false, false, false, false, false, false, false, false, false, false, false, false, false] HT_.out ?_
           refine pu_ (i := 3) (N := some 18) #[true, true, true, true, false, false, false, false, false, false, false, false, false, false, false, false, false] HT_.out ?_
           refine pu_ (i := 4) (N := some 19) #[true, true, true, true, true, false, false, false, false, false, false, false, false, false, false, false, false] HT_.out ?_
           refine pu_ (i := 5) (N := some 20) #[true, true, true, true, true, true, false, false, false, false, false, false, false, false, false, false, false] HT_.out ?_
           refine pu_ (i := 6) (N := some 21) #[true, true, true, true, true, true, true, false, false, false, false, false, false, false, false, false, false] HT_.out ?_
           refine pu_ (i := 7) (N := some 22) #[true, true, true, true, true, true, true, true, false, false, false, false, false, false, false, false, false] HT_.out ?_
           refine pu_ (i := 8) (N := some 23) #[true, true, true, true, true, true, true, true, true, false, false, false, false, false, false, false, false] HT_.out ?_
           refine pu_ (i := 10) (N := some 25) #[true, true, true, true, true, true, true, true, true, false, true, false, false, false, false, false, false] HT_.out ?_
           refine pu_ (i := 11) (N := some 26) #[true, true, true, true, true, true, true, true, true, false, true, true, false, false, false, false, false] HT_.out ?_
           refine pu_ (i := 12) (N := some 27) #[true, true, true, true, true, true, true, true, true, false, true, true, true, false, false, false, false] HT_.out ?_
           refine pu_ (i := 13) (N := some 28) #[true, true, true, true, true, true, true, true, true, false, true, true, true, true, false, false, false] HT_.out ?_
           refine take_ (i := 9) (N := some 24) (v := ?_) (a' := ?_) #[true, true, true, true, true, true, true, true, true, true, true, true, true, true, false, false, false] rfl rfl (take_ofW HT_.out HW_.out (by kernel_rfl)) (fun _ _ _ h => h) (Or.inl ⟨by rfl, ?_⟩) hHeld ?_ ?_
           rotate_left
           ·rintro w' ⟨s0, s1, s2, s3⟩
            go_simp
            with_reducible rfl
           rotate_left
           ·simp only [Act.put, List.setIfInBounds_toArray, List.set_cons_zero, List.set_cons_succ, i64_w, i32_w]
            rfl
           refine take_ (i := 14) (N := some 29) (v := ?_) (a' := ?_) #[true, true, true, true, true, true, true, true, true, true, true, true, true, true, true, false, false] rfl rfl (take_ofW HT_.out HW_.out (by kernel_rfl)) (fun _ _ _ h => h) (Or.inl ⟨by rfl, ?_⟩) hHeld ?_ ?_
           rotate_left
           ·rintro w' ⟨s0, s1, s2, s3⟩
            go_simp
            with_reducible rfl
           rotate_left
           ·simp only [Act.put, List.setIfInBounds_toArray, List.set_cons_zero, List.set_cons_succ, i64_w, i32_w]
            rfl
           refine pu_ (i := 15) (N := some 30) #[true, true, true, true, true, true, true, true, true, true, true, true, true, true, true, true, false] HT_.out ?_
           refine pu_ (i := 16) (N := some 31) #[true, true, true, true, true, true, true, true, true, true, true, true, true, true, true, true, true] HT_.out ?_
           refine done_ (done_of HT_.out (by kernel_rfl)) ?_
           try go_wp2
           go_roundg k2
           case measure => have := HK1.out; have := HK2.out; omega
           case rel => exact ⟨(wrap64 (x5_2 + 1)), z25_, H', ⟨by have := HK1.out; have := HK2.out; omega⟩, ⟨by (with_reducible repeat (first | apply Kd.R_alloc | apply Kd.R_drewN | apply Kd.R_drew)); first | exact HO_3.out | (simp only [w64_m256]; exact HO_3.out)⟩, ⟨by repeat (first | (with_reducible first | exact HB.out | apply below_alloc | apply pw_below_drewN | apply below_drew1) | exact HB.out)⟩⟩
          ·rw [if_neg c7] at H
           have c7b0 : decide (((rd_T60 x3_1 x5_2).f0) < ((rd_T60 l0 x4_1).f0)) = false := decide_eq_false c7
           clear c7
           by_cases c10 : ((rd_T60 x3_1 x5_2).f0) = ((rd_T60 l0 x4_1).f0)
           ·rw [if_pos c10] at H
            have c10b0 := beq_iff_eq.mpr c10
            have c10b1 := bne_eq_false_iff_eq.mpr c10
            clear c10
            obtain ⟨t324, A11, H⟩ := bindA H
            obtain ⟨y325, hy325⟩ : ∃ y_ : List (S60), y_ = (x3_1.set (x5_2 : Int).toNat (⟨(rd_T60 x3_1 x5_2).f0, t324⟩ : S60)) := ⟨_, rfl⟩
            replace H : (metrolabref26_Gathered.l0 k2 l0 y325 (wrap64 (x4_1 + 1))) = some r := by first | (rw [hy325]; with_reducible exact H) | (have H2_ := (Option.bind_some _ _).symm.trans H; rw [hy325]; with_reducible exact H2_) | (have H2_ := (Option.bind_some _ _).symm.trans H; with_reducible exact H2_) | with_reducible exact H | (rw [hy325]; exact H) | exact H
            have Ny325 := Aside0.mk hy325
            clear hy325
            have H' := Aside0.mk H
            clear H
            try go_wp2
            have n0_ := Aside0.mk (Kd.R_drew HO_3.out)
            have n1_ := Aside0.mk (below_drew1 HB.out)
            clear HO_3
            clear HB
            have HO_3 := n0_
            have HB := n1_
            clear n0_ n1_
            obtain ⟨Ao14, co14, eo14⟩ := Kd.R_slice HO_3.out
            (first | subst eo14 | (injection eo14 with f1_ f2_ f3_; have f4_ := f1_.symm; have f5_ := f3_.symm; clear f1_ f2_ f3_; subst f4_; subst f5_))
            have p318 : 0 ≤ (x5_2 : Int) := of_decide_eq_true z26_
            have q318 : x5_2 < (x3_1.length : Int) := of_decide_eq_true z26_
            obtain ⟨ad318, e318, hx318_0, hx318_1⟩ := at_T60 (Kd.R_reads' HO_3.out).2.2 x5_2 p318 q318
            cases e318
            replace p318 := eq_true p318
            replace q318 := eq_true q318
            have p319 : 0 ≤ (x4_1 : Int) := of_decide_eq_true z26_
            have q319 : x4_1 < (l0.length : Int) := of_decide_eq_true z26_
            obtain ⟨ad319, e319, hx319_0, hx319_1⟩ := at_T60 HR0.out x4_1 p319 q319
            have hw319_1 := hx319_1
            have hw319_0 := hx319_0
            cases e319
            replace hx319_0 := (HB.out.cell (World.block_lt_of_cell? w _ hx319_0)).trans hx319_0
            replace hx319_1 := (HB.out.cell (World.block_lt_of_cell? w _ hx319_1)).trans hx319_1
            replace p319 := eq_true p319
            replace q319 := eq_true q319
            refine start_ (n := 17) (S := fun w' => w'.cell? (ad318.add ((x5_2).toNat * 2)) = some (.int .i64 ((rd_T60 x3_1 x5_2).f0)) ∧ w'.cell? ⟨(ad318.add ((x5_2).toNat * 2)).block, (ad318.add ((x5_2).toNat * 2)).off + 1, none⟩ = some (.string ((rd_T60 x3_1 x5_2).f1)) ∧ w'.cell? (ad319.add ((x4_1).toNat * 2)) = some (.int .i64 ((rd_T60 l0 x4_1).f0)) ∧ w'.cell? ⟨(ad319.add ((x4_1).toNat * 2)).block, (ad319.add ((x4_1).toNat * 2)).off + 1, none⟩ = some (.string ((rd_T60 l0 x4_1).f1))) (ds := []) #[false, false, false, false, false, false, false, false, false, false, false, false, false, false, false, false, false] (by kernel_rfl) rfl rfl ⟨hx318_0, hx318_1, ((HB.out.cell (World.block_lt_of_cell? w _ hw319_0)).trans hw319_0), ((HB.out.cell (World.block_lt_of_cell? w _ hw319_1)).trans hw319_1)⟩ (fun hHeld => ?_); refine with_tabW metrolabref26_Gathered.tab6 metrolabref26_Gathered.bits6 (fun HT_ HW_ => ?_)
            generalize wr.drew = w13 at HO_3 HB hx318_0 hx318_1 hx319_0 hx319_1 hHeld ⊢
            refine pu_ (i := 0) (N := some 15) #[true, false, false, false, false, false, false, false, false, false, false, false, false, false, false, false, false] HT_.out ?_
            refine pu_ (i := 1) (N := some 16) #[true, true, false, false, false, false, false, false, false, false, false, false, false, false, false, false, false] HT_.out ?_
            refine pu_ (i := 2) (N := some 17) #[true, true, true, false, false, false, false, false, false, false, false, false, false, false, false, false, false] HT_.out ?_
            refine pu_ (i := 3) (N := some 18) #[true, true, true, true, false, false, false, false, false, false, false, false, false, false, false, false, false] HT_.out ?_
            refine pu_ (i := 4) (N := some 19) #[true, true, true, true, true, false, false, false, false, false, false, false, false, false, false, false, false] HT_.out ?_
            refine pu_ (i := 5) (N := some 20) #[true, true, true, true, true, true, false, false, false, false, false, false, false, false, false, false, false] HT_.out ?_
            refine pu_ (i := 6) (N := some 21) #[true, true, true, true, true, true, true, false, false, false, false, false, false, false, false, false, false] HT_.out ?_
            refine pu_ (i := 7) (N := some 22) #[true, true, true, true, true, true, true, true, false, false, false, false, false, false, false, false, false] HT_.out ?_
            refine pu_ (i := 8) (N := some 23) #[true, true, true, true, true, true, true, true, true, false, false, false, false, false, false, false, false] HT_.out ?_
            refine pu_ (i := 10) (N := some 25) #[true, true, true, true, true, true, true, true, true, false, true, false, false, false, false, false, false] HT_.out ?_
            refine pu_ (i := 11) (N := some 26) #[true, true, true, true, true, true, true, true, true, false, true, true, false, false, false, false, false] HT_.out ?_
            refine pu_ (i := 12) (N := some 27) #[true, true, true, true, true, true, true, true, true, false, true, true, true, false, false, false, false] HT_.out ?_
            refine pu_ (i := 13) (N := some 28) #[true, true, true, true, true, true, true, true, true, false, true, true, true, true, false, false, false] HT_.out ?_
            refine take_ (i := 9) (N := some 24) (v := ?_) (a' := ?_) #[true, true, true, true, true, true, true, true, true, true, true, true, true, true, false, false, false] rfl rfl (take_ofW HT_.out HW_.out (by kernel_rfl)) (fun _ _ _ h => h) (Or.inl ⟨by rfl, ?_⟩) hHeld ?_ ?_
            rotate_left
            ·rintro w' ⟨s0, s1, s2, s3⟩
             go_simp
             with_reducible rfl
            rotate_left
            ·simp only [Act.put, List.setIfInBounds_toArray, List.set_cons_zero, List.set_cons_succ, i64_w, i32_w]
             rfl
            refine take_ (i := 14) (N := some 29) (v := ?_) (a' := ?_) #[true, true, true, true, true, true, true, true, true, true, true, true, true, true, true, false, false] rfl rfl (take_ofW HT_.out HW_.out (by kernel_rfl)) (fun _ _ _ h => h) (Or.inl ⟨by rfl, ?_⟩) hHeld ?_ ?_
            rotate_left
            ·rintro w' ⟨s0, s1, s2, s3⟩
             go_simp
             with_reducible rfl
            rotate_left
            ·simp only [Act.put, List.setIfInBounds_toArray, List.set_cons_zero, List.set_cons_succ, i64_w, i32_w]
             rfl
            refine pu_ (i := 15) (N := some 30) #[true, true, true, true, true, true, true, true, true, true, true, true, true, true, true, true, false] HT_.out ?_
            refine pu_ (i := 16) (N := some 31) #[true, true, true, true, true, true, true, true, true, true, true, true, true, true, true, true, true] HT_.out ?_
            refine done_ (done_of HT_.out (by kernel_rfl)) ?_
            try go_wp2
            have n0_ := Aside0.mk (Kd.R_drew HO_3.out)
            have n1_ := Aside0.mk (below_drew1 HB.out)
            clear HO_3
            clear HB
            have HO_3 := n0_
            have HB := n1_
            clear n0_ n1_
            have p320 : 0 ≤ (x5_2 : Int) := of_decide_eq_true z26_
            have q320 : x5_2 < (x3_1.length : Int) := of_decide_eq_true z26_
            obtain ⟨ad320, e320, hx320_0, hx320_1⟩ := at_T60 (Kd.R_reads' HO_3.out).2.2 x5_2 p320 q320
            obtain rfl : ad318 = ad320 := (by injection e320)
            replace p320 := eq_true p320
            replace q320 := eq_true q320
            have p321 : 0 ≤ (x4_1 : Int) := of_decide_eq_true z26_
            have q321 : x4_1 < (l0.length : Int) := of_decide_eq_true z26_
            obtain ⟨ad321, e321, hx321_0, hx321_1⟩ := at_T60 HR0.out x4_1 p321 q321
            have hw321_1 := hx321_1
            have hw321_0 := hx321_0
            obtain rfl : ad319 = ad321 := (by injection e321)
            replace hx321_0 := (HB.out.cell (World.block_lt_of_cell? w _ hx321_0)).trans hx321_0
            replace hx321_1 := (HB.out.cell (World.block_lt_of_cell? w _ hx321_1)).trans hx321_1
            replace p321 := eq_true p321
            replace q321 := eq_true q321
            refine start_ (n := 17) (S := fun w' => w'.cell? (ad318.add ((x5_2).toNat * 2)) = some (.int .i64 ((rd_T60 x3_1 x5_2).f0)) ∧ w'.cell? ⟨(ad318.add ((x5_2).toNat * 2)).block, (ad318.add ((x5_2).toNat * 2)).off + 1, none⟩ = some (.string ((rd_T60 x3_1 x5_2).f1)) ∧ w'.cell? (ad319.add ((x4_1).toNat * 2)) = some (.int .i64 ((rd_T60 l0 x4_1).f0)) ∧ w'.cell? ⟨(ad319.add ((x4_1).toNat * 2)).block, (ad319.add ((x4_1).toNat * 2)).off + 1, none⟩ = some (.string ((rd_T60 l0 x4_1).f1))) (ds := []) #[false, false, false, false, false, false, false, false, false, false, false, false, false, false, false, false, false] (by kernel_rfl) rfl rfl ⟨hx320_0, hx320_1, ((HB.out.cell (World.block_lt_of_cell? w _ hw321_0)).trans hw321_0), ((HB.out.cell (World.block_lt_of_cell? w _ hw321_1)).trans hw321_1)⟩ (fun hHeld => ?_); refine with_tabW metrolabref26_Gathered.tab8 metrolabref26_Gathered.bits8 (fun HT_ HW_ => ?_)
            generalize w13.drew = w15 at HO_3 HB hx320_0 hx320_1 hx321_0 hx321_1 hHeld ⊢
            refine pu_ (i := 0) (N := some 34) #[true, false, false, false, false, false, false, false, false, false, false, false, false, false, false, false, false] HT_.out ?_
            refine pu_ (i := 1) (N := some 35) #[true, true, false, false, false, false, false, false, false, false, false, false, false, false, false, false, false] HT_.out ?_
            refine pu_ (i := 2) (N := some 36) #[true, true, true, false, false, false, false, false, false, false, false, false, false, false, false, false, false] HT_.out ?_
            refine pu_ (i := 3) (N := some 37) #[true, true, true, true, false, false, false, false, false, false, false, false, false, false, false, false, false] HT_.out ?_
            refine pu_ (i := 4) (N := some 38) #[true, true, true, true, true, false, false, false, false, false, false, false, false, false, false, false, false] HT_.out ?_
            refine pu_ (i := 5) (N := some 39) #[true, true, true, true, true, true, false, false, false, false, false, false, false, false, false, false, false] HT_.out ?_
            refine pu_ (i := 6) (N := some 40) #[true, true, true, true, true, true, true, false, false, false, false, false, false, false, false, false, false] HT_.out ?_
            refine pu_ (i := 7) (N := some 41) #[true, true, true, true, true, true, true, true, false, false, false, false, false, false, false, false, false] HT_.out ?_
            refine pu_ (i := 8) (N := some 42) #[true, true, true, true, true, true, true, true, true, false, false, false, false, false, false, false, false] HT_.out ?_
            refine pu_ (i := 10) (N := some 44) #[true, true, true, true, true, true, true, true, true, false, true, false, false, false, false, false, false] HT_.out ?_
            refine pu_ (i := 11) (N := some 45) #[true, true, true, true, true, true, true, true, true, false, true, true, false, false, false, false, false] HT_.out ?_
            refine pu_ (i := 12) (N := some 46) #[true, true, true, true, true, true, true, true, true, false, true, true, true, false, false, false, false] HT_.out ?_
            refine pu_ (i := 13) (N := some 47) #[true, true, true, true, true, true, true, true, true, false, true, true, true, true, false, false, false] HT_.out ?_
            refine take_ (i := 9) (N := some 43) (v := ?_) (a' := ?_) #[true, true, true, true, true, true, true, true, true, true, true, true, true, true, false, false, false] rfl rfl (take_ofW HT_.out HW_.out (by kernel_rfl)) (fun _ _ _ h => h) (Or.inl ⟨by rfl, ?_⟩) hHeld ?_ ?_
            rotate_left
            ·rintro w' ⟨s0, s1, s2, s3⟩
             go_simp
             with_reducible rfl
            rotate_left
            ·simp only [Act.put, List.setIfInBounds_toArray, List.set_cons_zero, List.set_cons_succ, i64_w, i32_w]
             rfl
            refine take_ (i := 14) (N := some 48) (v := ?_) (a' := ?_) #[true, true, true, true, true, true, true, true, true, true, true, true, true, true, true, false, false] rfl rfl (take_ofW HT_.out HW_.out (by kernel_rfl)) (fun _ _ _ h => h) (Or.inl ⟨by rfl, ?_⟩) hHeld ?_ ?_
            rotate_left
            ·rintro w' ⟨s0, s1, s2, s3⟩
             go_simp
             with_reducible rfl
            rotate_left
            ·simp only [Act.put, List.setIfInBounds_toArray, List.set_cons_zero, List.set_cons_succ, i64_w, i32_w]
             rfl
            refine pu_ (i := 15) (N := some 49) #[true, true, true, true, true, true, true, true, true, true, true, true, true, true, true, true, false] HT_.out ?_
            refine pu_ (i := 16) (N := some 50) #[true, true, true, true, true, true, true, true, true, true, true, true, true, true, true, true, true] HT_.out ?_
            refine done_ (done_of HT_.out (by kernel_rfl)) ?_
            try go_wp2
            have n0_ := Aside0.mk (Kd.R_drew HO_3.out)
            have n1_ := Aside0.mk (below_drew1 HB.out)
            clear HO_3
            clear HB
            have HO_3 := n0_
            have HB := n1_
            clear n0_ n1_
            have p322 : 0 ≤ (x5_2 : Int) := of_decide_eq_true z26_
            have q322 : x5_2 < (x3_1.length : Int) := of_decide_eq_true z26_
            obtain ⟨ad322, e322, hx322_0, hx322_1⟩ := at_T60 (Kd.R_reads' HO_3.out).2.2 x5_2 p322 q322
            obtain rfl : ad318 = ad322 := (by injection e322)
            replace p322 := eq_true p322
            replace q322 := eq_true q322
            have p323 : 0 ≤ (x4_1 : Int) := of_decide_eq_true z26_
            have q323 : x4_1 < (l0.length : Int) := of_decide_eq_true z26_
            obtain ⟨ad323, e323, hx323_0, hx323_1⟩ := at_T60 HR0.out x4_1 p323 q323
            have hw323_1 := hx323_1
            have hw323_0 := hx323_0
            obtain rfl : ad319 = ad323 := (by injection e323)
            replace hx323_0 := (HB.out.cell (World.block_lt_of_cell? w _ hx323_0)).trans hx323_0
            replace hx323_1 := (HB.out.cell (World.block_lt_of_cell? w _ hx323_1)).trans hx323_1
            replace p323 := eq_true p323
            replace q323 := eq_true q323
            refine start_ (n := 16) (S := fun w' => w'.cell? (ad318.add ((x5_2).toNat * 2)) = some (.int .i64 ((rd_T60 x3_1 x5_2).f0)) ∧ w'.cell? ⟨(ad318.add ((x5_2).toNat * 2)).block, (ad318.add ((x5_2).toNat * 2)).off + 1, none⟩ = some (.string ((rd_T60 x3_1 x5_2).f1)) ∧ w'.cell? (ad319.add ((x4_1).toNat * 2)) = some (.int .i64 ((rd_T60 l0 x4_1).f0)) ∧ w'.cell? ⟨(ad319.add ((x4_1).toNat * 2)).block, (ad319.add ((x4_1).toNat * 2)).off + 1, none⟩ = some (.string ((rd_T60 l0 x4_1).f1))) (ds := [15]) #[false, false, false, false, false, false, false, false, false, false, false, false, false, false, false, false] (by kernel_rfl) rfl rfl ⟨hx322_0, hx322_1, ((HB.out.cell (World.block_lt_of_cell? w _ hw323_0)).trans hw323_0), ((HB.out.cell (World.block_lt_of_cell? w _ hw323_1)).trans hw323_1)⟩ (fun hHeld => ?_); refine with_tabW metrolabref26_Gathered.tab9 metrolabref26_Gathered.bits9 (fun HT_ HW_ => ?_)
            generalize w15.drew = w16 at HO_3 HB hx322_0 hx322_1 hx323_0 hx323_1 hHeld ⊢
            refine pu_ (i := 0) (N := some 51) #[true, false, false, false, false, false, false, false, false, false, false, false, false, false, false, false] HT_.out ?_
            refine pu_ (i := 1) (N := some 52) #[true, true, false, false, false, false, false, false, false, false, false, false, false, false, false, false] HT_.out ?_
            refine pu_ (i := 2) (N := some 53) #[true, true, true, false, false, false, false, false, false, false, false, false, false, false, false, false] HT_.out ?_
            refine pu_ (i := 3) (N := some 54) #[true, true, true, true, false, false, false, false, false, false, false, false, false, false, false, false] HT_.out ?_
            refine pu_ (i := 4) (N := some 55) #[true, true, true, true, true, false, false, false, false, false, false, false, false, false, false, false] HT_.out ?_
            refine pu_ (i := 5) (N := some 56) #[true, true, true, true, true, true, false, false, false, false, false, false, false, false, false, false] HT_.out ?_
            refine pu_ (i := 7) (N := some 58) #[true, true, true, true, true, true, false, true, false, false, false, false, false, false, false, false] HT_.out ?_
            refine pu_ (i := 8) (N := some 59) #[true, true, true, true, true, true, false, true, true, false, false, false, false, false, false, false] HT_.out ?_
            refine pu_ (i := 9) (N := some 60) #[true, true, true, true, true, true, false, true, true, true, false, false, false, false, false, false] HT_.out ?_
            refine pu_ (i := 10) (N := some 61) #[true, true, true, true, true, true, false, true, true, true, true, false, false, false, false, false] HT_.out ?_
            refine take_ (i := 6) (N := some 57) (v := ?_) (a' := ?_) #[true, true, true, true, true, true, true, true, true, true, true, false, false, false, false, false] rfl rfl (take_ofW HT_.out HW_.out (by kernel_rfl)) (fun _ _ _ h => h) (Or.inl ⟨by rfl, ?_⟩) hHeld ?_ ?_
            rotate_left
            ·rintro w' ⟨s0, s1, s2, s3⟩
             go_simp
             with_reducible rfl
            rotate_left
            ·simp only [Act.put, List.setIfInBounds_toArray, List.set_cons_zero, List.set_cons_succ, i64_w, i32_w]
             rfl
            refine take_ (i := 11) (N := some 62) (v := ?_) (a' := ?_) #[true, true, true, true, true, true, true, true, true, true, true, true, false, false, false, false] rfl rfl (take_ofW HT_.out HW_.out (by kernel_rfl)) (fun _ _ _ h => h) (Or.inl ⟨by rfl, ?_⟩) hHeld ?_ ?_
            rotate_left
            ·rintro w' ⟨s0, s1, s2, s3⟩
             go_simp
             with_reducible rfl
            rotate_left
            ·simp only [Act.put, List.setIfInBounds_toArray, List.set_cons_zero, List.set_cons_succ, i64_w, i32_w]
             rfl
            refine one_ (i := 12) (N := some 63) #[true, true, true, true, true, true, true, true, true, true, true, true, true, false, false, false] rfl rfl (one_of HT_.out (by kernel_rfl)) (by decide) (fun K hK => ?_)
            refine goes_ Tryz.func76 (by kernel_rfl) rfl #[.string ((rd_T60 x3_1 x5_2).f1), .string ((rd_T60 l0 x4_1).f1)] (by rfl) rfl rfl z9_ ?_
            with_reducible refine (metrolabref01_Plus.calls ((rd_T60 x3_1 x5_2).f1) ((rd_T60 l0 x4_1).f1) t324 _ A11.out).mono ?_
            rintro e w17 ⟨rfl, hb⟩
            have HS0_ := (hb.cell (World.block_lt_of_cell? _ _ (hHeld.1))).trans (hHeld.1)
            have HS1_ := (hb.cell (World.block_lt_of_cell? _ _ (hHeld.2.1))).trans (hHeld.2.1)
            refine ⟨_, rfl, ?_⟩
            have n0_ := Aside0.mk (Kd.R_below z23_ hb)
            have n1_ := Aside0.mk (below_step z10_ hb)
            clear HO_3
            clear HB
            have HO_3 := n0_
            have HB := n1_
            clear n0_ n1_
            (try clear hb)
            (try clear hb2)
            (try clear hk)
            (try clear hi)
            have p12 : 0 ≤ (x5_2 : Int) := of_decide_eq_true z26_
            have q12 : (x5_2 : Int) < ((x3_1.length : Int) : Int) := of_decide_eq_true z26_
            obtain ⟨go12, co12, eo12, gb12, gl12, cl12, HG12⟩ := Kd.R_form HO_3.out (by omega)
            (first | cases eo12 | (injection eo12 with ea_ en_ ec_; (first | subst ea_ | (injection ea_ with ea_; subst ea_)); subst ec_; clear en_))
            have GB12 := Aside0.mk gb12
            have GG12 := Aside0.mk HG12
            clear gb12 gl12 HG12
            (first | simp only [add_plain] at hx318_0 | skip)
            (first | simp only [add_plain] at hx318_1 | skip)
            (first | simp only [add_plain] at hx320_0 | skip)
            (first | simp only [add_plain] at hx320_1 | skip)
            (first | simp only [add_plain] at hx322_0 | skip)
            (first | simp only [add_plain] at hx322_1 | skip)
            obtain ⟨ce12, hcl12, hM12, hcc12, hfr12⟩ := Kd.R_elem HO_3.out z60 (x5_2 : Int) p12 q12
            obtain rfl := k60_openM hM12
            have hx12_0 : World.cell? _ ⟨go12, (x5_2 : Int).toNat * 2, none⟩ = some (.int .i64 ((rd_T60 x3_1 x5_2).f0)) := hcc12 0 _ rfl
            have hx12_1 : World.cell? _ ⟨go12, (x5_2 : Int).toNat * 2 + 1, none⟩ = some (.string ((rd_T60 x3_1 x5_2).f1)) := hcc12 1 _ rfl
            have hf12_0 : World.frozen? _ ⟨go12, (x5_2 : Int).toNat * 2, none⟩ = false := hfr12 0
            have hf12_1 : World.frozen? _ ⟨go12, (x5_2 : Int).toNat * 2 + 1, none⟩ = false := hfr12 1
            clear hcl12 hcc12 hfr12 hM12
            replace p12 := eq_true p12
            replace q12 := eq_true q12
            obtain ⟨ce18, hcl18, hM18, hcc18, hfr18⟩ := Kd.R_elem HO_3.out z60 (x5_2 : Int) (of_decide_eq_true z26_) (by have h_ : (x5_2 : Int) < ((x3_1.length : Int) : Int) := of_decide_eq_true z26_; first | exact h_ | (have e_ := (Kd.R_reads' HO_3.out).1; omega) | simpa using h_)
            obtain rfl := k60_openM hM18
            have HP18 := (Kd.R_seg HO_3.out (x5_2 : Int) (of_decide_eq_true z26_) (by have h_ : (x5_2 : Int) < ((x3_1.length : Int) : Int) := of_decide_eq_true z26_; first | exact h_ | (have e_ := (Kd.R_reads' HO_3.out).1; omega) | simpa using h_) (seg := [.string t324]) (j := 1) hcl18 hcc18 (show 2 ≤ 2 from by decide) (x' := (⟨(rd_T60 x3_1 x5_2).f0, t324⟩ : S60)) (k60_mkM _ _ _ (⟨(rd_T60 x3_1 x5_2).f0, t324⟩ : S60) ) (fun _ hk => hk)).1
            rw [← Ny325.out] at HP18
            have HQ18 := Aside0.mk HP18
            clear hcl18 hcc18 hfr18 hM18 HP18
            refine hK.out _ _ ⟨HS0_, HS1_, ((HB.out.cell (World.block_lt_of_cell? w _ hw323_0)).trans hw323_0), ((HB.out.cell (World.block_lt_of_cell? w _ hw323_1)).trans hw323_1)⟩ (fun hHeld => ?_)
            clear hK K
            refine norm_ (a' := ?_) ?_ ?_
            rotate_left
            ·show Act.put _ (some 63) _ = _
             simp only [Act.put, List.setIfInBounds_toArray, List.set_cons_zero, List.set_cons_succ, i64_w, i32_w]
             rfl
            refine pu_ (i := 13) (N := some 64) #[true, true, true, true, true, true, true, true, true, true, true, true, true, true, false, false] HT_.out ?_
            refine pu_ (i := 14) (N := some 65) #[true, true, true, true, true, true, true, true, true, true, true, true, true, true, true, false] HT_.out ?_
            refine last_ (i := 15) (N := none) #[true, true, true, true, true, true, true, true, true, true, true, true, true, true, true, true] rfl rfl (one_of HT_.out (by kernel_rfl)) (by decide) (fun K hK => ?_)
            refine skip_ (w1 := ?_) (by rfl) rfl ?_ ?_
            rotate_left
            ·go_simp
             rfl
            refine hK.out _ _ ?_
            clear hK K
            refine done_ (done_of HT_.out (by kernel_rfl)) ?_
            try go_wp2
            go_roundg k2
            case measure => have := HK1.out; have := HK2.out; omega
            case rel => exact ⟨(y325), (wrap64 (x4_1 + 1)), z25_, H', ⟨by have := HK1.out; have := HK2.out; omega⟩, ⟨by (with_reducible repeat (first | apply Kd.R_alloc | apply Kd.R_drewN | apply Kd.R_drew)); first | exact HQ18.out | (simp only [w64_m256]; exact HQ18.out)⟩, ⟨by repeat (first | (with_reducible first | exact HB.out | apply below_alloc | apply pw_below_drewN | apply below_drew1 | refine Go.Proofs.YtkdpcgmnkifbbaaGreatDoorW.PrintWords.below_set ?_ GB12.out) | exact HB.out)⟩⟩
           ·rw [if_neg c10] at H
            have c10b0 := beq_eq_false_iff_ne.mpr c10
            have c10b1 := bne_iff_ne.mpr c10
            obtain ⟨y326, hy326⟩ : ∃ y_ : List (S60), y_ = (([] : List (S60))) := ⟨_, rfl⟩
            replace H : (if x5_2 ≤ (x3_1.length : Int) then ((some (x3_1.take (x5_2 : Int).toNat : List (S60))).bind fun y329 => (if y326.length + y329.length < 5864062014805 then ((some (y326 ++ y329 : List (S60))).bind fun y333 => (if y333.length < 5864062014805 then ((some (y333 ++ [(⟨(rd_T60 l0 x4_1).f0, (rd_T60 l0 x4_1).f1⟩ : S60)] : List (S60))).bind fun y337 => ((some (x3_1.drop (x5_2 : Int).toNat : List (S60))).bind fun y340 => (if y337.length + y340.length < 5864062014805 then (metrolabref26_Gathered.l0 k2 l0 (y337 ++ y340) (wrap64 (x4_1 + 1))) else (none)))) else (none))) else (none))) else (none)) = some r := by first | (rw [hy326]; with_reducible exact H) | (have H2_ := (Option.bind_some _ _).symm.trans H; rw [hy326]; with_reducible exact H2_) | (have H2_ := (Option.bind_some _ _).symm.trans H; with_reducible exact H2_) | with_reducible exact H | (rw [hy326]; exact H) | exact H
            have Ny326 := Aside0.mk hy326
            clear hy326
            have c19b0 := eq_true (of_decide_eq_true z26_ : 0 ≤ x5_2)
            by_cases c20 : x5_2 ≤ (x3_1.length : Int)
            ·rw [if_pos c20] at H
             have c20b0 := eq_true c20
             have c20b1 : decide (x5_2 ≤ (x3_1.length : Int)) = true := decide_eq_true c20
             clear c20
             obtain ⟨y329, hy329⟩ : ∃ y_ : List (S60), y_ = (x3_1.take (x5_2 : Int).toNat) := ⟨_, rfl⟩
             replace H : (if y326.length + y329.length < 5864062014805 then ((some (y326 ++ y329 : List (S60))).bind fun y333 => (if y333.length < 5864062014805 then ((some (y333 ++ [(⟨(rd_T60 l0 x4_1).f0, (rd_T60 l0 x4_1).f1⟩ : S60)] : List (S60))).bind fun y337 => ((some (x3_1.drop (x5_2 : Int).toNat : List (S60))).bind fun y340 => (if y337.length + y340.length < 5864062014805 then (metrolabref26_Gathered.l0 k2 l0 (y337 ++ y340) (wrap64 (x4_1 + 1))) else (none)))) else (none))) else (none)) = some r := by first | (rw [hy329]; with_reducible exact H) | (have H2_ := (Option.bind_some _ _).symm.trans H; rw [hy329]; with_reducible exact H2_) | (have H2_ := (Option.bind_some _ _).symm.trans H; with_reducible exact H2_) | with_reducible exact H | (rw [hy329]; exact H) | exact H
             have Ny329 := Aside0.mk hy329
             clear hy329
             by_cases c21 : y326.length + y329.length < 5864062014805
             ·rw [if_pos c21] at H
              have LMc21 := Aside0.mk c21
              clear c21
              obtain ⟨y333, hy333⟩ : ∃ y_ : List (S60), y_ = (y326 ++ y329) := ⟨_, rfl⟩
              replace H : (if y333.length < 5864062014805 then ((some (y333 ++ [(⟨(rd_T60 l0 x4_1).f0, (rd_T60 l0 x4_1).f1⟩ : S60)] : List (S60))).bind fun y337 => ((some (x3_1.drop (x5_2 : Int).toNat : List (S60))).bind fun y340 => (if y337.length + y340.length < 5864062014805 then (metrolabref26_Gathered.l0 k2 l0 (y337 ++ y340) (wrap64 (x4_1 + 1))) else (none)))) else (none)) = some r := by first | (rw [hy333]; with_reducible exact H) | (have H2_ := (Option.bind_some _ _).symm.trans H; rw [hy333]; with_reducible exact H2_) | (have H2_ := (Option.bind_some _ _).symm.trans H; with_reducible exact H2_) | with_reducible exact H | (rw [hy333]; exact H) | exact H
              have Ny333 := Aside0.mk hy333
              clear hy333
              by_cases c22 : y333.length < 5864062014805
              ·rw [if_pos c22] at H
               have LMc22 := Aside0.mk c22
               clear c22
               obtain ⟨y337, hy337⟩ : ∃ y_ : List (S60), y_ = (y333 ++ [(⟨(rd_T60 l0 x4_1).f0, (rd_T60 l0 x4_1).f1⟩ : S60)]) := ⟨_, rfl⟩
               replace H : ((some (x3_1.drop (x5_2 : Int).toNat : List (S60))).bind fun y340 => (if y337.length + y340.length < 5864062014805 then (metrolabref26_Gathered.l0 k2 l0 (y337 ++ y340) (wrap64 (x4_1 + 1))) else (none))) = some r := by first | (rw [hy337]; with_reducible exact H) | (have H2_ := (Option.bind_some _ _).symm.trans H; rw [hy337]; with_reducible exact H2_) | (have H2_ := (Option.bind_some _ _).symm.trans H; with_reducible exact H2_) | with_reducible exact H | (rw [hy337]; exact H) | exact H
               have Ny337 := Aside0.mk hy337
               clear hy337
               have c23b0 := eq_true (of_decide_eq_true z26_ : 0 ≤ x5_2)
               have c24b0 := eq_true (of_decide_eq_true z26_ : x5_2 ≤ (x3_1.length : Int))
               obtain ⟨y340, hy340⟩ : ∃ y_ : List (S60), y_ = (x3_1.drop (x5_2 : Int).toNat) := ⟨_, rfl⟩
               replace H : (if y337.length + y340.length < 5864062014805 then (metrolabref26_Gathered.l0 k2 l0 (y337 ++ y340) (wrap64 (x4_1 + 1))) else (none)) = some r := by first | (rw [hy340]; with_reducible exact H) | (have H2_ := (Option.bind_some _ _).symm.trans H; rw [hy340]; with_reducible exact H2_) | (have H2_ := (Option.bind_some _ _).symm.trans H; with_reducible exact H2_) | with_reducible exact H | (rw [hy340]; exact H) | exact H
               have Ny340 := Aside0.mk hy340
               clear hy340
               by_cases c25 : y337.length + y340.length < 5864062014805
               ·rw [if_pos c25] at H
                have LMc25 := Aside0.mk c25
                clear c25
                obtain ⟨y344, hy344⟩ : ∃ y_ : List (S60), y_ = (y337 ++ y340) := ⟨_, rfl⟩
                replace H : (metrolabref26_Gathered.l0 k2 l0 y344 (wrap64 (x4_1 + 1))) = some r := by first | (rw [hy344]; with_reducible exact H) | (have H2_ := (Option.bind_some _ _).symm.trans H; rw [hy344]; with_reducible exact H2_) | (have H2_ := (Option.bind_some _ _).symm.trans H; with_reducible exact H2_) | with_reducible exact H | (rw [hy344]; exact H) | exact H
                have Ny344 := Aside0.mk hy344
                clear hy344
                have H' := Aside0.mk H
                clear H
                try go_wp2
                have n0_ := Aside0.mk (Kd.R_drew HO_3.out)
                have n1_ := Aside0.mk (below_drew1 HB.out)
                clear HO_3
                clear HB
                have HO_3 := n0_
                have HB := n1_
                clear n0_ n1_
                obtain ⟨Ao27, co27, eo27⟩ := Kd.R_slice HO_3.out
                (first | subst eo27 | (injection eo27 with f1_ f2_ f3_; have f4_ := f1_.symm; have f5_ := f3_.symm; clear f1_ f2_ f3_; subst f4_; subst f5_))
                have p318 : 0 ≤ (x5_2 : Int) := of_decide_eq_true z26_
                have q318 : x5_2 < (x3_1.length : Int) := of_decide_eq_true z26_
                obtain ⟨ad318, e318, hx318_0, hx318_1⟩ := at_T60 (Kd.R_reads' HO_3.out).2.2 x5_2 p318 q318
                cases e318
                replace p318 := eq_true p318
                replace q318 := eq_true q318
                have p319 : 0 ≤ (x4_1 : Int) := of_decide_eq_true z26_
                have q319 : x4_1 < (l0.length : Int) := of_decide_eq_true z26_
                obtain ⟨ad319, e319, hx319_0, hx319_1⟩ := at_T60 HR0.out x4_1 p319 q319
                have hw319_1 := hx319_1
                have hw319_0 := hx319_0
                cases e319
                replace hx319_0 := (HB.out.cell (World.block_lt_of_cell? w _ hx319_0)).trans hx319_0
                replace hx319_1 := (HB.out.cell (World.block_lt_of_cell? w _ hx319_1)).trans hx319_1
                replace p319 := eq_true p319
                replace q319 := eq_true q319
                refine start_ (n := 17) (S := fun w' => w'.cell? (ad318.add ((x5_2).toNat * 2)) = some (.int .i64 ((rd_T60 x3_1 x5_2).f0)) ∧ w'.cell? ⟨(ad318.add ((x5_2).toNat * 2)).block, (ad318.add ((x5_2).toNat * 2)).off + 1, none⟩ = some (.string ((rd_T60 x3_1 x5_2).f1)) ∧ w'.cell? (ad319.add ((x4_1).toNat * 2)) = some (.int .i64 ((rd_T60 l0 x4_1).f0)) ∧ w'.cell? ⟨(ad319.add ((x4_1).toNat * 2)).block, (ad319.add ((x4_1).toNat * 2)).off + 1, none⟩ = some (.string ((rd_T60 l0 x4_1).f1))) (ds := []) #[false, false, false, false, false, false, false, false, false, false, false, false, false, false, false, false, false] (by kernel_rfl) rfl rfl ⟨hx318_0, hx318_1, ((HB.out.cell (World.block_lt_of_cell? w _ hw319_0)).trans hw319_0), ((HB.out.cell (World.block_lt_of_cell? w _ hw319_1)).trans hw319_1)⟩ (fun hHeld => ?_); refine with_tabW metrolabref26_Gathered.tab6 metrolabref26_Gathered.bits6 (fun HT_ HW_ => ?_)
                generalize wr.drew = w26 at HO_3 HB hx318_0 hx318_1 hx319_0 hx319_1 hHeld ⊢
                refine pu_ (i := 0) (N := some 15) #[true, false, false, false, false, false, false, false, false, false, false, false, false, false, false, false, false] HT_.out ?_
                refine pu_ (i := 1) (N := some 16) #[true, true, false, false, false, false, false, false, false, false, false, false, false, false, false, false, false] HT_.out ?_
                refine pu_ (i := 2) (N := some 17) #[true, true, true, false, false, false, false, false, false, false, false, false, false, false, false, false, false] HT_.out ?_
                refine pu_ (i := 3) (N := some 18) #[true, true, true, true, false, false, false, false, false, false, false, false, false, false, false, false, false] HT_.out ?_
                refine pu_ (i := 4) (N := some 19) #[true, true, true, true, true, false, false, false, false, false, false, false, false, false, false, false, false] HT_.out ?_
                refine pu_ (i := 5) (N := some 20) #[true, true, true, true, true, true, false, false, false, false, false, false, false, false, false, false, false] HT_.out ?_
                refine pu_ (i := 6) (N := some 21) #[true, true, true, true, true, true, true, false, false, false, false, false, false, false, false, false, false] HT_.out ?_
                refine pu_ (i := 7) (N := some 22) #[true, true, true, true, true, true, true, true, false, false, false, false, false, false, false, false, false] HT_.out ?_
                refine pu_ (i := 8) (N := some 23) #[true, true, true, true, true, true, true, true, true, false, false, false, false, false, false, false, false] HT_.out ?_
                refine pu_ (i := 10) (N := some 25) #[true, true, true, true, true, true, true, true, true, false, true, false, false, false, false, false, false] HT_.out ?_
                refine pu_ (i := 11) (N := some 26) #[true, true, true, true, true, true, true, true, true, false, true, true, false, false, false, false, false] HT_.out ?_
                refine pu_ (i := 12) (N := some 27) #[true, true, true, true, true, true, true, true, true, false, true, true, true, false, false, false, false] HT_.out ?_
                refine pu_ (i := 13) (N := some 28) #[true, true, true, true, true, true, true, true, true, false, true, true, true, true, false, false, false] HT_.out ?_
                refine take_ (i := 9) (N := some 24) (v := ?_) (a' := ?_) #[true, true, true, true, true, true, true, true, true, true, true, true, true, true, false, false, false] rfl rfl (take_ofW HT_.out HW_.out (by kernel_rfl)) (fun _ _ _ h => h) (Or.inl ⟨by rfl, ?_⟩) hHeld ?_ ?_
                rotate_left
                ·rintro w' ⟨s0, s1, s2, s3⟩
                 go_simp
                 with_reducible rfl
                rotate_left
                ·simp only [Act.put, List.setIfInBounds_toArray, List.set_cons_zero, List.set_cons_succ, i64_w, i32_w]
                 rfl
                refine take_ (i := 14) (N := some 29) (v := ?_) (a' := ?_) #[true, true, true, true, true, true, true, true, true, true, true, true, true, true, true, false, false] rfl rfl (take_ofW HT_.out HW_.out (by kernel_rfl)) (fun _ _ _ h => h) (Or.inl ⟨by rfl, ?_⟩) hHeld ?_ ?_
                rotate_left
                ·rintro w' ⟨s0, s1, s2, s3⟩
                 go_simp
                 with_reducible rfl
                rotate_left
                ·simp only [Act.put, List.setIfInBounds_toArray, List.set_cons_zero, List.set_cons_succ, i64_w, i32_w]
                 rfl
                refine pu_ (i := 15) (N := some 30) #[true, true, true, true, true, true, true, true, true, true, true, true, true, true, true, true, false] HT_.out ?_
                refine pu_ (i := 16) (N := some 31) #[true, true, true, true, true, true, true, true, true, true, true, true, true, true, true, true, true] HT_.out ?_
                refine done_ (done_of HT_.out (by kernel_rfl)) ?_
                try go_wp2
                have n0_ := Aside0.mk (Kd.R_drew HO_3.out)
                have n1_ := Aside0.mk (below_drew1 HB.out)
                clear HO_3
                clear HB
                have HO_3 := n0_
                have HB := n1_
                clear n0_ n1_
                have p320 : 0 ≤ (x5_2 : Int) := of_decide_eq_true z26_
                have q320 : x5_2 < (x3_1.length : Int) := of_decide_eq_true z26_
                obtain ⟨ad320, e320, hx320_0, hx320_1⟩ := at_T60 (Kd.R_reads' HO_3.out).2.2 x5_2 p320 q320
                obtain rfl : ad318 = ad320 := (by injection e320)
                replace p320 := eq_true p320
                replace q320 := eq_true q320
                have p321 : 0 ≤ (x4_1 : Int) := of_decide_eq_true z26_
                have q321 : x4_1 < (l0.length : Int) := of_decide_eq_true z26_
                obtain ⟨ad321, e321, hx321_0, hx321_1⟩ := at_T60 HR0.out x4_1 p321 q321
                have hw321_1 := hx321_1
                have hw321_0 := hx321_0
                obtain rfl : ad319 = ad321 := (by injection e321)
                replace hx321_0 := (HB.out.cell (World.block_lt_of_cell? w _ hx321_0)).trans hx321_0
                replace hx321_1 := (HB.out.cell (World.block_lt_of_cell? w _ hx321_1)).trans hx321_1
                replace p321 := eq_true p321
                replace q321 := eq_true q321
                refine start_ (n := 17) (S := fun w' => w'.cell? (ad318.add ((x5_2).toNat * 2)) = some (.int .i64 ((rd_T60 x3_1 x5_2).f0)) ∧ w'.cell? ⟨(ad318.add ((x5_2).toNat * 2)).block, (ad318.add ((x5_2).toNat * 2)).off + 1, none⟩ = some (.string ((rd_T60 x3_1 x5_2).f1)) ∧ w'.cell? (ad319.add ((x4_1).toNat * 2)) = some (.int .i64 ((rd_T60 l0 x4_1).f0)) ∧ w'.cell? ⟨(ad319.add ((x4_1).toNat * 2)).block, (ad319.add ((x4_1).toNat * 2)).off + 1, none⟩ = some (.string ((rd_T60 l0 x4_1).f1))) (ds := []) #[false, false, false, false, false, false, false, false, false, false, false, false, false, false, false, false, false] (by kernel_rfl) rfl rfl ⟨hx320_0, hx320_1, ((HB.out.cell (World.block_lt_of_cell? w _ hw321_0)).trans hw321_0), ((HB.out.cell (World.block_lt_of_cell? w _ hw321_1)).trans hw321_1)⟩ (fun hHeld => ?_); refine with_tabW metrolabref26_Gathered.tab8 metrolabref26_Gathered.bits8 (fun HT_ HW_ => ?_)
                generalize w26.drew = w28 at HO_3 HB hx320_0 hx320_1 hx321_0 hx321_1 hHeld ⊢
                refine pu_ (i := 0) (N := some 34) #[true, false, false, false, false, false, false, false, false, false, false, false, false, false, false, false, false] HT_.out ?_
                refine pu_ (i := 1) (N := some 35) #[true, true, false, false, false, false, false, false, false, false, false, false, false, false, false, false, false] HT_.out ?_
                refine pu_ (i := 2) (N := some 36) #[true, true, true, false, false, false, false, false, false, false, false, false, false, false, false, false, false] HT_.out ?_
                refine pu_ (i := 3) (N := some 37) #[true, true, true, true, false, false, false, false, false, false, false, false, false, false, false, false, false] HT_.out ?_
                refine pu_ (i := 4) (N := some 38) #[true, true, true, true, true, false, false, false, false, false, false, false, false, false, false, false, false] HT_.out ?_
                refine pu_ (i := 5) (N := some 39) #[true, true, true, true, true, true, false, false, false, false, false, false, false, false, false, false, false] HT_.out ?_
                refine pu_ (i := 6) (N := some 40) #[true, true, true, true, true, true, true, false, false, false, false, false, false, false, false, false, false] HT_.out ?_
                refine pu_ (i := 7) (N := some 41) #[true, true, true, true, true, true, true, true, false, false, false, false, false, false, false, false, false] HT_.out ?_
                refine pu_ (i := 8) (N := some 42) #[true, true, true, true, true, true, true, true, true, false, false, false, false, false, false, false, false] HT_.out ?_
                refine pu_ (i := 10) (N := some 44) #[true, true, true, true, true, true, true, true, true, false, true, false, false, false, false, false, false] HT_.out ?_
                refine pu_ (i := 11) (N := some 45) #[true, true, true, true, true, true, true, true, true, false, true, true, false, false, false, false, false] HT_.out ?_
                refine pu_ (i := 12) (N := some 46) #[true, true, true, true, true, true, true, true, true, false, true, true, true, false, false, false, false] HT_.out ?_
                refine pu_ (i := 13) (N := some 47) #[true, true, true, true, true, true, true, true, true, false, true, true, true, true, false, false, false] HT_.out ?_
                refine take_ (i := 9) (N := some 43) (v := ?_) (a' := ?_) #[true, true, true, true, true, true, true, true, true, true, true, true, true, true, false, false, false] rfl rfl (take_ofW HT_.out HW_.out (by kernel_rfl)) (fun _ _ _ h => h) (Or.inl ⟨by rfl, ?_⟩) hHeld ?_ ?_
                rotate_left
                ·rintro w' ⟨s0, s1, s2, s3⟩
                 go_simp
                 with_reducible rfl
                rotate_left
                ·simp only [Act.put, List.setIfInBounds_toArray, List.set_cons_zero, List.set_cons_succ, i64_w, i32_w]
                 rfl
                refine take_ (i := 14) (N := some 48) (v := ?_) (a' := ?_) #[true, true, true, true, true, true, true, true, true, true, true, true, true, true, true, false, false] rfl rfl (take_ofW HT_.out HW_.out (by kernel_rfl)) (fun _ _ _ h => h) (Or.inl ⟨by rfl, ?_⟩) hHeld ?_ ?_
                rotate_left
                ·rintro w' ⟨s0, s1, s2, s3⟩
                 go_simp
                 with_reducible rfl
                rotate_left
                ·simp only [Act.put, List.setIfInBounds_toArray, List.set_cons_zero, List.set_cons_succ, i64_w, i32_w]
                 rfl
                refine pu_ (i := 15) (N := some 49) #[true, true, true, true, true, true, true, true, true, true, true, true, true, true, true, true, false] HT_.out ?_
                refine pu_ (i := 16) (N := some 50) #[true, true, true, true, true, true, true, true, true, true, true, true, true, true, true, true, true] HT_.out ?_
                refine done_ (done_of HT_.out (by kernel_rfl)) ?_
                try go_wp2_with (first | ((with_reducible refine gate_dst (N := 66) rfl ?_); refine Kd.R_lit k60 _ 60 ?hg (N := 66) ?hd (xs := ([] : List (S60))) (inner := []) (ok := fun _ => True) (okp := fun _ => True) ?hr ?hp (fun _ hk => hk) trivial (Below.refl _ _) (Nat.le_refl _) (by simp) ?_; (case hd => rfl); (case hg => rfl); (case hr => first | (go_simp; done) | (go_simp; rfl)); (case hp => exact (Reps.none _ _)); intro v327 w29 ho30 hb hg_ hnew_; clear hg_ hnew_; (first | rw [← Ny326.out] at ho30 | (simp only [Int.reduceToNat] at ho30; rw [← Ny326.out] at ho30)); have n0_ := Aside0.mk (Kd.R_elder' z23_ (Kd.R_base ho30) hb); have n1_ := Aside0.mk (Kd.R_lower (Kd.R_new' ho30 (Kd.R_lt z23_)) (below_size z10_)); have n2_ := Aside0.mk (below_step z10_ hb); clear HO_3; clear HB; have HO_3 := n0_; have HO328 := n1_; have HB := n2_; clear n0_ n1_ n2_; clear hb ho30; have q31 : (x5_2 : Int) ≤ ((x3_1.length : Int) : Int) := of_decide_eq_true z26_; obtain ⟨i031, hi031, _, hsz31, _⟩ := info_parts info60; have hroom31 : x3_1.length ≤ co27 := (Kd.R_reads' HO_3.out).2.1; have hC31 : Kd.C k60 _ (some ad318) x3_1.length x3_1 := (Kd.R_reads' HO_3.out).2.2; have hcut31 := cut_to (P := Tryz.prog) 22 60 .i64 Tryz.underlying22 hi031 (some ad318) x3_1.length co27 x5_2 (of_decide_eq_true z26_) q31 hroom31; have hr31 := Kd.C_take (m := (x5_2 : Int).toNat) hC31 (by omega); have hy31 : y329.length = (x5_2 : Int).toNat := (by rw [Ny329.out, List.length_take]; omega); rw [← Ny329.out] at hr31; rw [← hy31] at hcut31; have HR332 := Aside0.mk hr31; have HC332 := Aside0.mk (show y329.length ≤ co27 from by omega); clear hr31 hC31 hroom31 hi031 hsz31; have KY31 := Aside0.mk hy31; clear hy31; have KL31 := Aside0.mk (show (x5_2 : Int).toNat ≤ x3_1.length from by omega); replace q31 := eq_true q31) | ((with_reducible refine gate_builtin (b := .append) (xs := #[.tmp 66, .tmp 69]) rfl ?_); at_builtin; refine Kd.R_append_rows k60 (w0 := w) w.heap.size rfl (.tmp 66) (.tmp 69) 22 60 (.agg #[(.int .i64 0), (.string ⟨#[]⟩)]) 24 rfl Tryz.underlying22 info60 rfl (by decide) (by omega) v327 y326 y329 _ _ _ (fun k_ => some k_ ≠ (.slice (some ad318) x3_1.length co27 : Value).ownBlock) (fun _ => False) rfl rfl ?aO ?aR (fun _ _ h => h) (fun _ h => h.elim) ?aF ?aB ?aS ?aL ?_; (case aR => repeat (first | exact (by repeat (first | (with_reducible exact HR332.out) | (with_reducible refine Kd.C_alloc ?_ _) | (with_reducible refine Kd.C_drewN ?_ _) | (with_reducible refine Kd.C_drew ?_) | exact HR332.out)) | (with_reducible refine Kd.C_alloc ?_ _) | (with_reducible refine Kd.C_drewN ?_ _) | (with_reducible refine Kd.C_drew ?_))); (case aB => exact z10_); (case aF => exact (fun k_ hk => Kd.fresh' (Kd.R_lt z23_) k_ hk)); (case aO => exact (by (with_reducible repeat (first | apply Kd.R_alloc | apply Kd.R_drewN | apply Kd.R_drew)); exact Kd.R_mono HO328.out (fun _ hk => hk.2))); (case aS => exact (below_size z10_)); (case aL => have := LMc21.out; omega); intro v334 w32 ho hb hg hat; rw [← Ny333.out] at ho; have n0_ := Aside0.mk (Kd.R_after (ok := (fun _ => True)) z23_ hg hat); have n1_ := Aside0.mk (hb); have n2_ := Aside0.mk ((show Kd.C k60 w32 (some ad318) y329.length y329 from by rw [Ny329.out]; exact Kd.C_take (m := (x5_2 : Int).toNat) ((Kd.R_reads' (Kd.R_after (ok := (fun _ => True)) z23_ hg hat)).2.2) KL31.out)); have n3_ := Aside0.mk (ho); clear HO_3; clear HB; clear HR332; clear HO328; have HO_3 := n0_; have HB := n1_; have HR332 := n2_; have HO335 := n3_; clear n0_ n1_ n2_ n3_; clear ho hb hg hat))
                have n0_ := Aside0.mk (Kd.R_drew HO_3.out)
                have n1_ := Aside0.mk (Kd.R_drew HO335.out)
                have n2_ := Aside0.mk (Kd.C_drew HR332.out)
                have n3_ := Aside0.mk (below_drew1 HB.out)
                clear HO_3
                clear HO335
                clear HR332
                clear HB
                have HO_3 := n0_
                have HO335 := n1_
                have HR332 := n2_
                have HB := n3_
                clear n0_ n1_ n2_ n3_
                have p336 : 0 ≤ (x4_1 : Int) := of_decide_eq_true z26_
                have q336 : x4_1 < (l0.length : Int) := of_decide_eq_true z26_
                obtain ⟨ad336, e336, hx336_0, hx336_1⟩ := at_T60 HR0.out x4_1 p336 q336
                have hw336_1 := hx336_1
                have hw336_0 := hx336_0
                obtain rfl : ad319 = ad336 := (by injection e336)
                replace hx336_0 := (HB.out.cell (World.block_lt_of_cell? w _ hx336_0)).trans hx336_0
                replace hx336_1 := (HB.out.cell (World.block_lt_of_cell? w _ hx336_1)).trans hx336_1
                replace p336 := eq_true p336
                replace q336 := eq_true q336
                have q34 : (x5_2 : Int) ≤ ((x3_1.length : Int) : Int) := of_decide_eq_true z26_
                obtain ⟨i034, hi034, _, hsz34, _⟩ := info_parts info60
                have hroom34 : x3_1.length ≤ co27 := (Kd.R_reads' HO_3.out).2.1
                have hC34 : Kd.C k60 _ (some ad318) x3_1.length x3_1 := (Kd.R_reads' HO_3.out).2.2
                have q034 : (0 : Int) ≤ (x5_2 : Int) := of_decide_eq_true z26_
                have hcut34 := cut_from (P := Tryz.prog) 22 60 .i64 Tryz.underlying22 hi034 2 hsz34 (some ad318) x3_1.length co27 x5_2 q034 q34
                have hr34 := Kd.C_drop (m := (x5_2 : Int).toNat) (c := co27) hC34 (by omega) hroom34
                obtain ⟨A34, hA34⟩ : ∃ A1, A1 = (if co27 = (x5_2 : Int).toNat then (some ad318) else ((some ad318) : Option Addr).map (·.add ((x5_2 : Int).toNat * 2))) := ⟨_, rfl⟩
                obtain ⟨c34, hc34⟩ : ∃ c1, c1 = co27 - (x5_2 : Int).toNat := ⟨_, rfl⟩
                have hy34 : y340.length = x3_1.length - (x5_2 : Int).toNat := (by rw [Ny340.out, List.length_drop] <;> omega)
                rw [show (x3_1).drop (x5_2 : Int).toNat = y340 from Ny340.out.symm] at hr34
                replace hr34 : Kd.C k60 _ A34 y340.length y340 := (by rw [hA34]; exact hr34)
                rw [← hy34, ← hA34, ← hc34] at hcut34
                have HR343 := Aside0.mk hr34
                have HC343 := Aside0.mk (show y340.length ≤ c34 from by rw [hy34, hc34]; exact Nat.sub_le_sub_right hroom34 _)
                clear hr34 hC34 hroom34 hi034 hsz34 hc34
                have KY34 := Aside0.mk hy34
                have KA34 := Aside0.mk hA34
                clear hy34 hA34
                have KL34 := Aside0.mk (show (x5_2 : Int).toNat ≤ x3_1.length from by omega)
                replace q34 := eq_true q34
                refine start_ (n := 12) (S := fun w' => w'.cell? (ad319.add ((x4_1).toNat * 2)) = some (.int .i64 ((rd_T60 l0 x4_1).f0)) ∧ w'.cell? ⟨(ad319.add ((x4_1).toNat * 2)).block, (ad319.add ((x4_1).toNat * 2)).off + 1, none⟩ = some (.string ((rd_T60 l0 x4_1).f1))) (ds := []) #[false, false, false, false, false, false, false, false, false, false, false, false] (by kernel_rfl) rfl rfl ⟨((HB.out.cell (World.block_lt_of_cell? w _ hw336_0)).trans hw336_0), ((HB.out.cell (World.block_lt_of_cell? w _ hw336_1)).trans hw336_1)⟩ (fun hHeld => ?_); refine with_tabW metrolabref26_Gathered.tab11 metrolabref26_Gathered.bits11 (fun HT_ HW_ => ?_)
                generalize w32.drew = w33 at HO_3 HO335 HR332 HB HR343 hx336_0 hx336_1 hHeld ⊢
                refine pu_ (i := 0) (N := some 71) #[true, false, false, false, false, false, false, false, false, false, false, false] HT_.out ?_
                refine pu_ (i := 1) (N := some 72) #[true, true, false, false, false, false, false, false, false, false, false, false] HT_.out ?_
                refine pu_ (i := 2) (N := some 73) #[true, true, true, false, false, false, false, false, false, false, false, false] HT_.out ?_
                refine pu_ (i := 3) (N := some 74) #[true, true, true, true, false, false, false, false, false, false, false, false] HT_.out ?_
                refine pu_ (i := 7) (N := some 78) #[true, true, true, true, false, false, false, true, false, false, false, false] HT_.out ?_
                refine pu_ (i := 8) (N := some 79) #[true, true, true, true, false, false, false, true, true, false, false, false] HT_.out ?_
                refine pu_ (i := 9) (N := some 80) #[true, true, true, true, false, false, false, true, true, true, false, false] HT_.out ?_
                refine take_ (i := 4) (N := some 75) (v := ?_) (a' := ?_) #[true, true, true, true, true, false, false, true, true, true, false, false] rfl rfl (take_ofW HT_.out HW_.out (by kernel_rfl)) (fun _ _ _ h => h) (Or.inl ⟨by rfl, ?_⟩) hHeld ?_ ?_
                rotate_left
                ·rintro w' ⟨s0, s1⟩
                 go_simp
                 with_reducible rfl
                rotate_left
                ·simp only [Act.put, List.setIfInBounds_toArray, List.set_cons_zero, List.set_cons_succ, i64_w, i32_w]
                 rfl
                refine one_ (i := 5) (N := some 76) #[true, true, true, true, true, true, false, true, true, true, false, false] rfl rfl (one_of HT_.out (by kernel_rfl)) (by decide) (fun K hK => ?_)
                refine value_ (w1 := ?_) (v := ?_) (by rfl) rfl ?_ ?_
                rotate_left 2
                ·go_simp
                 constructor
                 ·rfl
                 ·rfl
                refine hK.out _ _ ⟨(World.cell?_alloc_lt _ _ _ (World.block_lt_of_cell? _ _ (((HB.out.cell (World.block_lt_of_cell? w _ hw336_0)).trans hw336_0)))).trans (((HB.out.cell (World.block_lt_of_cell? w _ hw336_0)).trans hw336_0)), (World.cell?_alloc_lt _ _ _ (World.block_lt_of_cell? _ _ (((HB.out.cell (World.block_lt_of_cell? w _ hw336_1)).trans hw336_1)))).trans (((HB.out.cell (World.block_lt_of_cell? w _ hw336_1)).trans hw336_1))⟩ (fun hHeld => ?_)
                clear hK K
                refine norm_ (a' := ?_) ?_ ?_
                rotate_left
                ·show Act.put _ (some 76) _ = _
                 simp only [Act.put, List.setIfInBounds_toArray, List.set_cons_zero, List.set_cons_succ, i64_w, i32_w]
                 rfl
                refine one_ (i := 6) (N := some 77) #[true, true, true, true, true, true, true, true, true, true, false, false] rfl rfl (one_of HT_.out (by kernel_rfl)) (by decide) (fun K hK => ?_)
                refine Kd.R_append_step k60 (w0 := w) w.heap.size (by rfl) (.tmp 71) (.tmp 76) 22 60 (.agg #[(.int .i64 0), (.string ⟨#[]⟩)]) 24 rfl Tryz.underlying22 info60 rfl (by decide) (by omega) v334 y333 (⟨(rd_T60 l0 x4_1).f0, (rd_T60 l0 x4_1).f1⟩ : S60) [.int .i64 ((rd_T60 l0 x4_1).f0), .string ((rd_T60 l0 x4_1).f1)] (fun k_ => some k_ ≠ (.slice (some ad318) x3_1.length co27 : Value).ownBlock) (fun _ => False) rfl rfl ?aP (fun _ hk => hk.elim) ?aF ?aO ?aB ?aS ?aL ?_
                (case aP => exact k60_mkM _ _ _ (⟨(rd_T60 l0 x4_1).f0, (rd_T60 l0 x4_1).f1⟩ : S60))
                (case aB => exact z10_)
                (case aF => exact (fun k_ hk => Kd.fresh' (Kd.R_lt z23_) k_ hk))
                (case aO => exact (by (with_reducible repeat (first | apply Kd.R_alloc | apply Kd.R_drewN | apply Kd.R_drew)); exact HO335.out))
                (case aS => exact (below_size z10_))
                (case aL => have := LMc22.out; omega)
                intro v338 w35 ho hb hg hat
                rw [← Ny337.out] at ho
                have n0_ := Aside0.mk (Kd.R_after (ok := (fun _ => True)) z23_ hg hat)
                have n1_ := Aside0.mk (hb)
                have n2_ := Aside0.mk ((show Kd.C k60 w35 (some ad318) y329.length y329 from by rw [Ny329.out]; exact Kd.C_take (m := (x5_2 : Int).toNat) ((Kd.R_reads' (Kd.R_after (ok := (fun _ => True)) z23_ hg hat)).2.2) KL31.out))
                have n3_ := Aside0.mk ((show Kd.C k60 w35 A34 y340.length y340 from by rw [Ny340.out, KA34.out]; exact Kd.C_drop (m := (x5_2 : Int).toNat) (c := co27) ((Kd.R_reads' (Kd.R_after (ok := (fun _ => True)) z23_ hg hat)).2.2) KL34.out ((Kd.R_reads' (Kd.R_after (ok := (fun _ => True)) z23_ hg hat)).2.1)))
                have n4_ := Aside0.mk (ho)
                clear HO_3
                clear HB
                clear HR332
                clear HR343
                clear HO335
                have HO_3 := n0_
                have HB := n1_
                have HR332 := n2_
                have HR343 := n3_
                have HO339 := n4_
                clear n0_ n1_ n2_ n3_ n4_
                clear ho hb hg hat
                refine hK.out _ _ ⟨((HB.out.cell (World.block_lt_of_cell? w _ hw336_0)).trans hw336_0), ((HB.out.cell (World.block_lt_of_cell? w _ hw336_1)).trans hw336_1)⟩ (fun hHeld => ?_)
                clear hK K
                refine norm_ (a' := ?_) ?_ ?_
                rotate_left
                ·show Act.put _ (some 77) _ = _
                 simp only [Act.put, List.setIfInBounds_toArray, List.set_cons_zero, List.set_cons_succ, i64_w, i32_w]
                 rfl
                refine one_ (i := 10) (N := some 81) #[true, true, true, true, true, true, true, true, true, true, true, false] rfl rfl (one_of HT_.out (by kernel_rfl)) (by decide) (fun K hK => ?_)
                refine Kd.R_append_rows_step k60 (w0 := w) w.heap.size (by rfl) (.tmp 77) (.tmp 80) 22 60 (.agg #[(.int .i64 0), (.string ⟨#[]⟩)]) 24 rfl Tryz.underlying22 info60 rfl (by decide) (by omega) v338 y337 y340 _ _ _ (fun k_ => some k_ ≠ (.slice (some ad318) x3_1.length co27 : Value).ownBlock) (fun _ => False) rfl rfl ?aO ?aR (fun _ _ h => h) (fun _ h => h.elim) ?aF ?aB ?aS ?aL ?_
                (case aR => repeat (first | exact (by repeat (first | (with_reducible exact HR343.out) | (with_reducible refine Kd.C_alloc ?_ _) | (with_reducible refine Kd.C_drewN ?_ _) | (with_reducible refine Kd.C_drew ?_) | exact HR343.out)) | (with_reducible refine Kd.C_alloc ?_ _) | (with_reducible refine Kd.C_drewN ?_ _) | (with_reducible refine Kd.C_drew ?_)))
                (case aB => exact z10_)
                (case aF => exact (fun k_ hk => Kd.fresh' (Kd.R_lt z23_) k_ hk))
                (case aO => exact (by (with_reducible repeat (first | apply Kd.R_alloc | apply Kd.R_drewN | apply Kd.R_drew)); exact HO339.out))
                (case aS => exact (below_size z10_))
                (case aL => have := LMc25.out; omega)
                intro v345 w36 ho hb hg hat
                rw [← Ny344.out] at ho
                have n0_ := Aside0.mk (Kd.R_after (ok := (fun _ => True)) z23_ hg hat)
                have n1_ := Aside0.mk (hb)
                have n2_ := Aside0.mk ((show Kd.C k60 w36 (some ad318) y329.length y329 from by rw [Ny329.out]; exact Kd.C_take (m := (x5_2 : Int).toNat) ((Kd.R_reads' (Kd.R_after (ok := (fun _ => True)) z23_ hg hat)).2.2) KL31.out))
                have n3_ := Aside0.mk ((show Kd.C k60 w36 A34 y340.length y340 from by rw [Ny340.out, KA34.out]; exact Kd.C_drop (m := (x5_2 : Int).toNat) (c := co27) ((Kd.R_reads' (Kd.R_after (ok := (fun _ => True)) z23_ hg hat)).2.2) KL34.out ((Kd.R_reads' (Kd.R_after (ok := (fun _ => True)) z23_ hg hat)).2.1)))
                have n4_ := Aside0.mk (ho)
                clear HO_3
                clear HB
                clear HR332
                clear HR343
                clear HO339
                have HO_3 := n0_
                have HB := n1_
                have HR332 := n2_
                have HR343 := n3_
                have HO346 := n4_
                clear n0_ n1_ n2_ n3_ n4_
                clear ho hb hg hat
                refine hK.out _ _ ⟨((HB.out.cell (World.block_lt_of_cell? w _ hw336_0)).trans hw336_0), ((HB.out.cell (World.block_lt_of_cell? w _ hw336_1)).trans hw336_1)⟩ (fun hHeld => ?_)
                clear hK K
                refine norm_ (a' := ?_) ?_ ?_
                rotate_left
                ·show Act.put _ (some 81) _ = _
                 simp only [Act.put, List.setIfInBounds_toArray, List.set_cons_zero, List.set_cons_succ, i64_w, i32_w]
                 rfl
                refine pu_ (i := 11) (N := some 3) #[true, true, true, true, true, true, true, true, true, true, true, true] HT_.out ?_
                refine done_ (done_of HT_.out (by kernel_rfl)) ?_
                try go_wp2
                go_roundg k2
                case measure => have := HK1.out; have := HK2.out; omega
                case rel => exact ⟨(y344), (wrap64 (x4_1 + 1)), z25_, H', ⟨by have := HK1.out; have := HK2.out; omega⟩, ⟨by (with_reducible repeat (first | apply Kd.R_alloc | apply Kd.R_drewN | apply Kd.R_drew)); exact Kd.R_mono HO346.out (fun _ hk => trivial)⟩, ⟨by repeat (first | (with_reducible first | exact HB.out | apply below_alloc | apply pw_below_drewN | apply below_drew1) | exact HB.out)⟩⟩
               ·rw [if_neg c25] at H
                exact absurd H (by simp)
              ·rw [if_neg c22] at H
               exact absurd H (by simp)
             ·rw [if_neg c21] at H
              exact absurd H (by simp)
            ·rw [if_neg c20] at H
             exact absurd H (by simp)
         ·rw [if_neg c6] at H
          exact absurd H (by simp)
        ·rw [if_neg c5] at H
         exact absurd H (by simp)
       ·rw [if_neg c4] at H
        exact absurd H (by simp)
      ·rw [if_neg c3] at H
       have c3b0 : decide (x5_2 < (x3_1.length : Int)) = false := decide_eq_false c3
       clear c3
       obtain ⟨y347, hy347⟩ : ∃ y_ : List (S60), y_ = (([] : List (S60))) := ⟨_, rfl⟩
       replace H : (if 0 ≤ x5_2 then (if x5_2 ≤ (x3_1.length : Int) then ((some (x3_1.take (x5_2 : Int).toNat : List (S60))).bind fun y350 => (if y347.length + y350.length < 5864062014805 then ((some (y347 ++ y350 : List (S60))).bind fun y354 => (if 0 ≤ x4_1 then (if x4_1 < (l0.length : Int) then (if y354.length < 5864062014805 then ((some (y354 ++ [(⟨(rd_T60 l0 x4_1).f0, (rd_T60 l0 x4_1).f1⟩ : S60)] : List (S60))).bind fun y358 => ((some (x3_1.drop (x5_2 : Int).toNat : List (S60))).bind fun y361 => (if y358.length + y361.length < 5864062014805 then (metrolabref26_Gathered.l0 k2 l0 (y358 ++ y361) (wrap64 (x4_1 + 1))) else (none)))) else (none)) else (none)) else (none))) else (none))) else (none)) else (none)) = some r := by first | (rw [hy347]; with_reducible exact H) | (have H2_ := (Option.bind_some _ _).symm.trans H; rw [hy347]; with_reducible exact H2_) | (have H2_ := (Option.bind_some _ _).symm.trans H; with_reducible exact H2_) | with_reducible exact H | (rw [hy347]; exact H) | exact H
       have Ny347 := Aside0.mk hy347
       clear hy347
       by_cases c37 : 0 ≤ x5_2
       ·rw [if_pos c37] at H
        have c37b0 := eq_true c37
        have c37b1 : decide (0 ≤ x5_2) = true := decide_eq_true c37
        clear c37
        by_cases c38 : x5_2 ≤ (x3_1.length : Int)
        ·rw [if_pos c38] at H
         have c38b0 := eq_true c38
         have c38b1 : decide (x5_2 ≤ (x3_1.length : Int)) = true := decide_eq_true c38
         clear c38
         obtain ⟨y350, hy350⟩ : ∃ y_ : List (S60), y_ = (x3_1.take (x5_2 : Int).toNat) := ⟨_, rfl⟩
         replace H : (if y347.length + y350.length < 5864062014805 then ((some (y347 ++ y350 : List (S60))).bind fun y354 => (if 0 ≤ x4_1 then (if x4_1 < (l0.length : Int) then (if y354.length < 5864062014805 then ((some (y354 ++ [(⟨(rd_T60 l0 x4_1).f0, (rd_T60 l0 x4_1).f1⟩ : S60)] : List (S60))).bind fun y358 => ((some (x3_1.drop (x5_2 : Int).toNat : List (S60))).bind fun y361 => (if y358.length + y361.length < 5864062014805 then (metrolabref26_Gathered.l0 k2 l0 (y358 ++ y361) (wrap64 (x4_1 + 1))) else (none)))) else (none)) else (none)) else (none))) else (none)) = some r := by first | (rw [hy350]; with_reducible exact H) | (have H2_ := (Option.bind_some _ _).symm.trans H; rw [hy350]; with_reducible exact H2_) | (have H2_ := (Option.bind_some _ _).symm.trans H; with_reducible exact H2_) | with_reducible exact H | (rw [hy350]; exact H) | exact H
         have Ny350 := Aside0.mk hy350
         clear hy350
         by_cases c39 : y347.length + y350.length < 5864062014805
         ·rw [if_pos c39] at H
          have LMc39 := Aside0.mk c39
          clear c39
          obtain ⟨y354, hy354⟩ : ∃ y_ : List (S60), y_ = (y347 ++ y350) := ⟨_, rfl⟩
          replace H : (if 0 ≤ x4_1 then (if x4_1 < (l0.length : Int) then (if y354.length < 5864062014805 then ((some (y354 ++ [(⟨(rd_T60 l0 x4_1).f0, (rd_T60 l0 x4_1).f1⟩ : S60)] : List (S60))).bind fun y358 => ((some (x3_1.drop (x5_2 : Int).toNat : List (S60))).bind fun y361 => (if y358.length + y361.length < 5864062014805 then (metrolabref26_Gathered.l0 k2 l0 (y358 ++ y361) (wrap64 (x4_1 + 1))) else (none)))) else (none)) else (none)) else (none)) = some r := by first | (rw [hy354]; with_reducible exact H) | (have H2_ := (Option.bind_some _ _).symm.trans H; rw [hy354]; with_reducible exact H2_) | (have H2_ := (Option.bind_some _ _).symm.trans H; with_reducible exact H2_) | with_reducible exact H | (rw [hy354]; exact H) | exact H
          have Ny354 := Aside0.mk hy354
          clear hy354
          by_cases c40 : 0 ≤ x4_1
          ·rw [if_pos c40] at H
           have c40b0 : decide (0 ≤ x4_1) = true := decide_eq_true c40
           clear c40
           by_cases c41 : x4_1 < (l0.length : Int)
           ·rw [if_pos c41] at H
            have c41b0 : decide (x4_1 < (l0.length : Int)) = true := decide_eq_true c41
            clear c41
            by_cases c42 : y354.length < 5864062014805
            ·rw [if_pos c42] at H
             have LMc42 := Aside0.mk c42
             clear c42
             obtain ⟨y358, hy358⟩ : ∃ y_ : List (S60), y_ = (y354 ++ [(⟨(rd_T60 l0 x4_1).f0, (rd_T60 l0 x4_1).f1⟩ : S60)]) := ⟨_, rfl⟩
             replace H : ((some (x3_1.drop (x5_2 : Int).toNat : List (S60))).bind fun y361 => (if y358.length + y361.length < 5864062014805 then (metrolabref26_Gathered.l0 k2 l0 (y358 ++ y361) (wrap64 (x4_1 + 1))) else (none))) = some r := by first | (rw [hy358]; with_reducible exact H) | (have H2_ := (Option.bind_some _ _).symm.trans H; rw [hy358]; with_reducible exact H2_) | (have H2_ := (Option.bind_some _ _).symm.trans H; with_reducible exact H2_) | with_reducible exact H | (rw [hy358]; exact H) | exact H
             have Ny358 := Aside0.mk hy358
             clear hy358
             have c43b0 := eq_true (of_decide_eq_true z26_ : 0 ≤ x5_2)
             have c44b0 := eq_true (of_decide_eq_true z26_ : x5_2 ≤ (x3_1.length : Int))
             obtain ⟨y361, hy361⟩ : ∃ y_ : List (S60), y_ = (x3_1.drop (x5_2 : Int).toNat) := ⟨_, rfl⟩
             replace H : (if y358.length + y361.length < 5864062014805 then (metrolabref26_Gathered.l0 k2 l0 (y358 ++ y361) (wrap64 (x4_1 + 1))) else (none)) = some r := by first | (rw [hy361]; with_reducible exact H) | (have H2_ := (Option.bind_some _ _).symm.trans H; rw [hy361]; with_reducible exact H2_) | (have H2_ := (Option.bind_some _ _).symm.trans H; with_reducible exact H2_) | with_reducible exact H | (rw [hy361]; exact H) | exact H
             have Ny361 := Aside0.mk hy361
             clear hy361
             by_cases c45 : y358.length + y361.length < 5864062014805
             ·rw [if_pos c45] at H
              have LMc45 := Aside0.mk c45
              clear c45
              obtain ⟨y365, hy365⟩ : ∃ y_ : List (S60), y_ = (y358 ++ y361) := ⟨_, rfl⟩
              replace H : (metrolabref26_Gathered.l0 k2 l0 y365 (wrap64 (x4_1 + 1))) = some r := by first | (rw [hy365]; with_reducible exact H) | (have H2_ := (Option.bind_some _ _).symm.trans H; rw [hy365]; with_reducible exact H2_) | (have H2_ := (Option.bind_some _ _).symm.trans H; with_reducible exact H2_) | with_reducible exact H | (rw [hy365]; exact H) | exact H
              have Ny365 := Aside0.mk hy365
              clear hy365
              have H' := Aside0.mk H
              clear H
              try go_wp2
              have n0_ := Aside0.mk (Kd.R_drew HO_3.out)
              have n1_ := Aside0.mk (below_drew1 HB.out)
              clear HO_3
              clear HB
              have HO_3 := n0_
              have HB := n1_
              clear n0_ n1_
              obtain ⟨Ao47, co47, eo47⟩ := Kd.R_slice HO_3.out
              (first | subst eo47 | (injection eo47 with f1_ f2_ f3_; have f4_ := f1_.symm; have f5_ := f3_.symm; clear f1_ f2_ f3_; subst f4_; subst f5_))
              refine start_ (n := 17) (S := fun w' => True) (ds := []) #[false, false, false, false, false, false, false, false, false, false, false, false, false, false, false, false, false] (by kernel_rfl) rfl rfl trivial (fun hHeld => ?_); refine with_tabW metrolabref26_Gathered.tab6 metrolabref26_Gathered.bits6 (fun HT_ HW_ => ?_)
              generalize wr.drew = w46 at HO_3 HB hHeld ⊢
              refine pu_ (i := 0) (N := some 15) #[true, false, false, false, false, false, false, false, false, false, false, false, false, false, false, false, false] HT_.out ?_
              refine pu_ (i := 1) (N := some 16) #[true, true, false, false, false, false, false, false, false, false, false, false, false, false, false, false, false] HT_.out ?_
              refine pu_ (i := 2) (N := some 17) #[true, true, true, false, false, false, false, false, false, false, false, false, false, false, false, false, false] HT_.out ?_
              refine pu_ (i := 3) (N := some 18) #[true, true, true, true, false, false, false, false, false, false, false, false, false, false, false, false, false] HT_.out ?_
              refine pu_ (i := 4) (N := some 19) #[true, true, true, true, true, false, false, false, false, false, false, false, false, false, false, false, false] HT_.out ?_
              refine pure_ (i := 5) (N := some 20) (v := undef) (a' := ?_) #[true, true, true, true, true, true, false, false, false, false, false, false, false, false, false, false, false] rfl rfl (any_of HT_.out (by kernel_rfl)) (fun _ _ _ h => h) (Or.inr ⟨by rfl, rfl⟩) ?_ ?_
              rotate_left
              ·simp only [Act.put, List.setIfInBounds_toArray, List.set_cons_zero, List.set_cons_succ, i64_w, i32_w]
               rfl
              refine pure_ (i := 6) (N := some 21) (v := undef) (a' := ?_) #[true, true, true, true, true, true, true, false, false, false, false, false, false, false, false, false, false] rfl rfl (any_of HT_.out (by kernel_rfl)) (fun _ _ _ h => h) (Or.inr ⟨by rfl, rfl⟩) ?_ ?_
              rotate_left
              ·simp only [Act.put, List.setIfInBounds_toArray, List.set_cons_zero, List.set_cons_succ, i64_w, i32_w]
               rfl
              refine pure_ (i := 7) (N := some 22) (v := undef) (a' := ?_) #[true, true, true, true, true, true, true, true, false, false, false, false, false, false, false, false, false] rfl rfl (any_of HT_.out (by kernel_rfl)) (fun _ _ _ h => h) (Or.inr ⟨by rfl, rfl⟩) ?_ ?_
              rotate_left
              ·simp only [Act.put, List.setIfInBounds_toArray, List.set_cons_zero, List.set_cons_succ, i64_w, i32_w]
               rfl
              refine pure_ (i := 8) (N := some 23) (v := undef) (a' := ?_) #[true, true, true, true, true, true, true, true, true, false, false, false, false, false, false, false, false] rfl rfl (any_of HT_.out (by kernel_rfl)) (fun _ _ _ h => h) (Or.inr ⟨by rfl, rfl⟩) ?_ ?_
              rotate_left
              ·simp only [Act.put, List.setIfInBounds_toArray, List.set_cons_zero, List.set_cons_succ, i64_w, i32_w]
               rfl
              refine pure_ (i := 9) (N := some 24) (v := undef) (a' := ?_) #[true, true, true, true, true, true, true, true, true, true, false, false, false, false, false, false, false] rfl rfl (any_of HT_.out (by kernel_rfl)) (fun _ _ _ h => h) (Or.inr ⟨by rfl, rfl⟩) ?_ ?_
              rotate_left
              ·simp only [Act.put, List.setIfInBounds_toArray, List.set_cons_zero, List.set_cons_succ, i64_w, i32_w]
               rfl
              refine pure_ (i := 10) (N := some 25) (v := undef) (a' := ?_) #[true, true, true, true, true, true, true, true, true, true, true, false, false, false, false, false, false] rfl rfl (any_of HT_.out (by kernel_rfl)) (fun _ _ _ h => h) (Or.inr ⟨by rfl, rfl⟩) ?_ ?_
              rotate_left
              ·simp only [Act.put, List.setIfInBounds_toArray, List.set_cons_zero, List.set_cons_succ, i64_w, i32_w]
               rfl
              refine pure_ (i := 11) (N := some 26) (v := undef) (a' := ?_) #[true, true, true, true, true, true, true, true, true, true, true, true, false, false, false, false, false] rfl rfl (any_of HT_.out (by kernel_rfl)) (fun _ _ _ h => h) (Or.inr ⟨by rfl, rfl⟩) ?_ ?_
              rotate_left
              ·simp only [Act.put, List.setIfInBounds_toArray, List.set_cons_zero, List.set_cons_succ, i64_w, i32_w]
               rfl
              refine pure_ (i := 12) (N := some 27) (v := undef) (a' := ?_) #[true, true, true, true, true, true, true, true, true, true, true, true, true, false, false, false, false] rfl rfl (any_of HT_.out (by kernel_rfl)) (fun _ _ _ h => h) (Or.inr ⟨by rfl, rfl⟩) ?_ ?_
              rotate_left
              ·simp only [Act.put, List.setIfInBounds_toArray, List.set_cons_zero, List.set_cons_succ, i64_w, i32_w]
               rfl
              refine pure_ (i := 13) (N := some 28) (v := undef) (a' := ?_) #[true, true, true, true, true, true, true, true, true, true, true, true, true, true, false, false, false] rfl rfl (any_of HT_.out (by kernel_rfl)) (fun _ _ _ h => h) (Or.inr ⟨by rfl, rfl⟩) ?_ ?_
              rotate_left
              ·simp only [Act.put, List.setIfInBounds_toArray, List.set_cons_zero, List.set_cons_succ, i64_w, i32_w]
               rfl
              refine pure_ (i := 14) (N := some 29) (v := undef) (a' := ?_) #[true, true, true, true, true, true, true, true, true, true, true, true, true, true, true, false, false] rfl rfl (any_of HT_.out (by kernel_rfl)) (fun _ _ _ h => h) (Or.inr ⟨by rfl, rfl⟩) ?_ ?_
              rotate_left
              ·simp only [Act.put, List.setIfInBounds_toArray, List.set_cons_zero, List.set_cons_succ, i64_w, i32_w]
               rfl
              refine pure_ (i := 15) (N := some 30) (v := undef) (a' := ?_) #[true, true, true, true, true, true, true, true, true, true, true, true, true, true, true, true, false] rfl rfl (any_of HT_.out (by kernel_rfl)) (fun _ _ _ h => h) (Or.inr ⟨by rfl, rfl⟩) ?_ ?_
              rotate_left
              ·simp only [Act.put, List.setIfInBounds_toArray, List.set_cons_zero, List.set_cons_succ, i64_w, i32_w]
               rfl
              refine pu_ (i := 16) (N := some 31) #[true, true, true, true, true, true, true, true, true, true, true, true, true, true, true, true, true] HT_.out ?_
              refine done_ (done_of HT_.out (by kernel_rfl)) ?_
              try go_wp2
              have n0_ := Aside0.mk (Kd.R_drew HO_3.out)
              have n1_ := Aside0.mk (below_drew1 HB.out)
              clear HO_3
              clear HB
              have HO_3 := n0_
              have HB := n1_
              clear n0_ n1_
              refine start_ (n := 17) (S := fun w' => True) (ds := []) #[false, false, false, false, false, false, false, false, false, false, false, false, false, false, false, false, false] (by kernel_rfl) rfl rfl trivial (fun hHeld => ?_); refine with_tabW metrolabref26_Gathered.tab8 metrolabref26_Gathered.bits8 (fun HT_ HW_ => ?_)
              generalize w46.drew = w48 at HO_3 HB hHeld ⊢
              refine pu_ (i := 0) (N := some 34) #[true, false, false, false, false, false, false, false, false, false, false, false, false, false, false, false, false] HT_.out ?_
              refine pu_ (i := 1) (N := some 35) #[true, true, false, false, false, false, false, false, false, false, false, false, false, false, false, false, false] HT_.out ?_
              refine pu_ (i := 2) (N := some 36) #[true, true, true, false, false, false, false, false, false, false, false, false, false, false, false, false, false] HT_.out ?_
              refine pu_ (i := 3) (N := some 37) #[true, true, true, true, false, false, false, false, false, false, false, false, false, false, false, false, false] HT_.out ?_
              refine pu_ (i := 4) (N := some 38) #[true, true, true, true, true, false, false, false, false, false, false, false, false, false, false, false, false] HT_.out ?_
              refine pure_ (i := 5) (N := some 39) (v := undef) (a' := ?_) #[true, true, true, true, true, true, false, false, false, false, false, false, false, false, false, false, false] rfl rfl (any_of HT_.out (by kernel_rfl)) (fun _ _ _ h => h) (Or.inr ⟨by rfl, rfl⟩) ?_ ?_
              rotate_left
              ·simp only [Act.put, List.setIfInBounds_toArray, List.set_cons_zero, List.set_cons_succ, i64_w, i32_w]
               rfl
              refine pure_ (i := 6) (N := some 40) (v := undef) (a' := ?_) #[true, true, true, true, true, true, true, false, false, false, false, false, false, false, false, false, false] rfl rfl (any_of HT_.out (by kernel_rfl)) (fun _ _ _ h => h) (Or.inr ⟨by rfl, rfl⟩) ?_ ?_
              rotate_left
              ·simp only [Act.put, List.setIfInBounds_toArray, List.set_cons_zero, List.set_cons_succ, i64_w, i32_w]
               rfl
              refine pure_ (i := 7) (N := some 41) (v := undef) (a' := ?_) #[true, true, true, true, true, true, true, true, false, false, false, false, false, false, false, false, false] rfl rfl (any_of HT_.out (by kernel_rfl)) (fun _ _ _ h => h) (Or.inr ⟨by rfl, rfl⟩) ?_ ?_
              rotate_left
              ·simp only [Act.put, List.setIfInBounds_toArray, List.set_cons_zero, List.set_cons_succ, i64_w, i32_w]
               rfl
              refine pure_ (i := 8) (N := some 42) (v := undef) (a' := ?_) #[true, true, true, true, true, true, true, true, true, false, false, false, false, false, false, false, false] rfl rfl (any_of HT_.out (by kernel_rfl)) (fun _ _ _ h => h) (Or.inr ⟨by rfl, rfl⟩) ?_ ?_
              rotate_left
              ·simp only [Act.put, List.setIfInBounds_toArray, List.set_cons_zero, List.set_cons_succ, i64_w, i32_w]
               rfl
              refine pure_ (i := 9) (N := some 43) (v := undef) (a' := ?_) #[true, true, true, true, true, true, true, true, true, true, false, false, false, false, false, false, false] rfl rfl (any_of HT_.out (by kernel_rfl)) (fun _ _ _ h => h) (Or.inr ⟨by rfl, rfl⟩) ?_ ?_
              rotate_left
              ·simp only [Act.put, List.setIfInBounds_toArray, List.set_cons_zero, List.set_cons_succ, i64_w, i32_w]
               rfl
              refine pure_ (i := 10) (N := some 44) (v := undef) (a' := ?_) #[true, true, true, true, true, true, true, true, true, true, true, false, false, false, false, false, false] rfl rfl (any_of HT_.out (by kernel_rfl)) (fun _ _ _ h => h) (Or.inr ⟨by rfl, rfl⟩) ?_ ?_
              rotate_left
              ·simp only [Act.put, List.setIfInBounds_toArray, List.set_cons_zero, List.set_cons_succ, i64_w, i32_w]
               rfl
              refine pure_ (i := 11) (N := some 45) (v := undef) (a' := ?_) #[true, true, true, true, true, true, true, true, true, true, true, true, false, false, false, false, false] rfl rfl (any_of HT_.out (by kernel_rfl)) (fun _ _ _ h => h) (Or.inr ⟨by rfl, rfl⟩) ?_ ?_
              rotate_left
              ·simp only [Act.put, List.setIfInBounds_toArray, List.set_cons_zero, List.set_cons_succ, i64_w, i32_w]
               rfl
              refine pure_ (i := 12) (N := some 46) (v := undef) (a' := ?_) #[true, true, true, true, true, true, true, true, true, true, true, true, true, false, false, false, false] rfl rfl (any_of HT_.out (by kernel_rfl)) (fun _ _ _ h => h) (Or.inr ⟨by rfl, rfl⟩) ?_ ?_
              rotate_left
              ·simp only [Act.put, List.setIfInBounds_toArray, List.set_cons_zero, List.set_cons_succ, i64_w, i32_w]
               rfl
              refine pure_ (i := 13) (N := some 47) (v := undef) (a' := ?_) #[true, true, true, true, true, true, true, true, true, true, true, true, true, true, false, false, false] rfl rfl (any_of HT_.out (by kernel_rfl)) (fun _ _ _ h => h) (Or.inr ⟨by rfl, rfl⟩) ?_ ?_
              rotate_left
              ·simp only [Act.put, List.setIfInBounds_toArray, List.set_cons_zero, List.set_cons_succ, i64_w, i32_w]
               rfl
              refine pure_ (i := 14) (N := some 48) (v := undef) (a' := ?_) #[true, true, true, true, true, true, true, true, true, true, true, true, true, true, true, false, false] rfl rfl (any_of HT_.out (by kernel_rfl)) (fun _ _ _ h => h) (Or.inr ⟨by rfl, rfl⟩) ?_ ?_
              rotate_left
              ·simp only [Act.put, List.setIfInBounds_toArray, List.set_cons_zero, List.set_cons_succ, i64_w, i32_w]
               rfl
              refine pure_ (i := 15) (N := some 49) (v := undef) (a' := ?_) #[true, true, true, true, true, true, true, true, true, true, true, true, true, true, true, true, false] rfl rfl (any_of HT_.out (by kernel_rfl)) (fun _ _ _ h => h) (Or.inr ⟨by rfl, rfl⟩) ?_ ?_
              rotate_left
              ·simp only [Act.put, List.setIfInBounds_toArray, List.set_cons_zero, List.set_cons_succ, i64_w, i32_w]
               rfl
              refine pu_ (i := 16) (N := some 50) #[true, true, true, true, true, true, true, true, true, true, true, true, true, true, true, true, true] HT_.out ?_
              refine done_ (done_of HT_.out (by kernel_rfl)) ?_
              try go_wp2_with (first | ((with_reducible refine gate_dst (N := 66) rfl ?_); refine Kd.R_lit k60 _ 60 ?hg (N := 66) ?hd (xs := ([] : List (S60))) (inner := []) (ok := fun _ => True) (okp := fun _ => True) ?hr ?hp (fun _ hk => hk) trivial (Below.refl _ _) (Nat.le_refl _) (by simp) ?_; (case hd => rfl); (case hg => rfl); (case hr => first | (go_simp; done) | (go_simp; rfl)); (case hp => exact (Reps.none _ _)); intro v348 w49 ho50 hb hg_ hnew_; clear hg_ hnew_; (first | rw [← Ny347.out] at ho50 | (simp only [Int.reduceToNat] at ho50; rw [← Ny347.out] at ho50)); have n0_ := Aside0.mk (Kd.R_elder' z23_ (Kd.R_base ho50) hb); have n1_ := Aside0.mk (Kd.R_lower (Kd.R_new' ho50 (Kd.R_lt z23_)) (below_size z10_)); have n2_ := Aside0.mk (below_step z10_ hb); clear HO_3; clear HB; have HO_3 := n0_; have HO349 := n1_; have HB := n2_; clear n0_ n1_ n2_; clear hb ho50; have q51 : (x5_2 : Int) ≤ ((x3_1.length : Int) : Int) := of_decide_eq_true z26_; obtain ⟨i051, hi051, _, hsz51, _⟩ := info_parts info60; have hroom51 : x3_1.length ≤ co47 := (Kd.R_reads' HO_3.out).2.1; have hC51 : Kd.C k60 _ Ao47 x3_1.length x3_1 := (Kd.R_reads' HO_3.out).2.2; have hcut51 := cut_to (P := Tryz.prog) 22 60 .i64 Tryz.underlying22 hi051 Ao47 x3_1.length co47 x5_2 (of_decide_eq_true z26_) q51 hroom51; have hr51 := Kd.C_take (m := (x5_2 : Int).toNat) hC51 (by omega); have hy51 : y350.length = (x5_2 : Int).toNat := (by rw [Ny350.out, List.length_take]; omega); rw [← Ny350.out] at hr51; rw [← hy51] at hcut51; have HR353 := Aside0.mk hr51; have HC353 := Aside0.mk (show y350.length ≤ co47 from by omega); clear hr51 hC51 hroom51 hi051 hsz51; have KY51 := Aside0.mk hy51; clear hy51; have KL51 := Aside0.mk (show (x5_2 : Int).toNat ≤ x3_1.length from by omega); replace q51 := eq_true q51) | ((with_reducible refine gate_builtin (b := .append) (xs := #[.tmp 66, .tmp 69]) rfl ?_); at_builtin; refine Kd.R_append_rows k60 (w0 := w) w.heap.size rfl (.tmp 66) (.tmp 69) 22 60 (.agg #[(.int .i64 0), (.string ⟨#[]⟩)]) 24 rfl Tryz.underlying22 info60 rfl (by decide) (by omega) v348 y347 y350 _ _ _ (fun k_ => some k_ ≠ (.slice Ao47 x3_1.length co47 : Value).ownBlock) (fun _ => False) rfl rfl ?aO ?aR (fun _ _ h => h) (fun _ h => h.elim) ?aF ?aB ?aS ?aL ?_; (case aR => repeat (first | exact (by repeat (first | (with_reducible exact HR353.out) | (with_reducible refine Kd.C_alloc ?_ _) | (with_reducible refine Kd.C_drewN ?_ _) | (with_reducible refine Kd.C_drew ?_) | exact HR353.out)) | (with_reducible refine Kd.C_alloc ?_ _) | (with_reducible refine Kd.C_drewN ?_ _) | (with_reducible refine Kd.C_drew ?_))); (case aB => exact z10_); (case aF => exact (fun k_ hk => Kd.fresh' (Kd.R_lt z23_) k_ hk)); (case aO => exact (by (with_reducible repeat (first | apply Kd.R_alloc | apply Kd.R_drewN | apply Kd.R_drew)); exact Kd.R_mono HO349.out (fun _ hk => hk.2))); (case aS => exact (below_size z10_)); (case aL => have := LMc39.out; omega); intro v355 w52 ho hb hg hat; rw [← Ny354.out] at ho; have n0_ := Aside0.mk (Kd.R_after (ok := (fun _ => True)) z23_ hg hat); have n1_ := Aside0.mk (hb); have n2_ := Aside0.mk ((show Kd.C k60 w52 Ao47 y350.length y350 from by rw [Ny350.out]; exact Kd.C_take (m := (x5_2 : Int).toNat) ((Kd.R_reads' (Kd.R_after (ok := (fun _ => True)) z23_ hg hat)).2.2) KL51.out)); have n3_ := Aside0.mk (ho); clear HO_3; clear HB; clear HR353; clear HO349; have HO_3 := n0_; have HB := n1_; have HR353 := n2_; have HO356 := n3_; clear n0_ n1_ n2_ n3_; clear ho hb hg hat))
              have n0_ := Aside0.mk (Kd.R_drew HO_3.out)
              have n1_ := Aside0.mk (Kd.R_drew HO356.out)
              have n2_ := Aside0.mk (Kd.C_drew HR353.out)
              have n3_ := Aside0.mk (below_drew1 HB.out)
              clear HO_3
              clear HO356
              clear HR353
              clear HB
              have HO_3 := n0_
              have HO356 := n1_
              have HR353 := n2_
              have HB := n3_
              clear n0_ n1_ n2_ n3_
              have p357 : 0 ≤ (x4_1 : Int) := of_decide_eq_true z26_
              have q357 : x4_1 < (l0.length : Int) := of_decide_eq_true z26_
              obtain ⟨ad357, e357, hx357_0, hx357_1⟩ := at_T60 HR0.out x4_1 p357 q357
              have hw357_1 := hx357_1
              have hw357_0 := hx357_0
              cases e357
              replace hx357_0 := (HB.out.cell (World.block_lt_of_cell? w _ hx357_0)).trans hx357_0
              replace hx357_1 := (HB.out.cell (World.block_lt_of_cell? w _ hx357_1)).trans hx357_1
              replace p357 := eq_true p357
              replace q357 := eq_true q357
              have q54 : (x5_2 : Int) ≤ ((x3_1.length : Int) : Int) := of_decide_eq_true z26_
              obtain ⟨i054, hi054, _, hsz54, _⟩ := info_parts info60
              have hroom54 : x3_1.length ≤ co47 := (Kd.R_reads' HO_3.out).2.1
              have hC54 : Kd.C k60 _ Ao47 x3_1.length x3_1 := (Kd.R_reads' HO_3.out).2.2
              have q054 : (0 : Int) ≤ (x5_2 : Int) := of_decide_eq_true z26_
              have hcut54 := cut_from (P := Tryz.prog) 22 60 .i64 Tryz.underlying22 hi054 2 hsz54 Ao47 x3_1.length co47 x5_2 q054 q54
              have hr54 := Kd.C_drop (m := (x5_2 : Int).toNat) (c := co47) hC54 (by omega) hroom54
              obtain ⟨A54, hA54⟩ : ∃ A1, A1 = (if co47 = (x5_2 : Int).toNat then Ao47 else (Ao47 : Option Addr).map (·.add ((x5_2 : Int).toNat * 2))) := ⟨_, rfl⟩
              obtain ⟨c54, hc54⟩ : ∃ c1, c1 = co47 - (x5_2 : Int).toNat := ⟨_, rfl⟩
              have hy54 : y361.length = x3_1.length - (x5_2 : Int).toNat := (by rw [Ny361.out, List.length_drop] <;> omega)
              rw [show (x3_1).drop (x5_2 : Int).toNat = y361 from Ny361.out.symm] at hr54
              replace hr54 : Kd.C k60 _ A54 y361.length y361 := (by rw [hA54]; exact hr54)
              rw [← hy54, ← hA54, ← hc54] at hcut54
              have HR364 := Aside0.mk hr54
              have HC364 := Aside0.mk (show y361.length ≤ c54 from by rw [hy54, hc54]; exact Nat.sub_le_sub_right hroom54 _)
              clear hr54 hC54 hroom54 hi054 hsz54 hc54
              have KY54 := Aside0.mk hy54
              have KA54 := Aside0.mk hA54
              clear hy54 hA54
              have KL54 := Aside0.mk (show (x5_2 : Int).toNat ≤ x3_1.length from by omega)
              replace q54 := eq_true q54
              refine start_ (n := 12) (S := fun w' => w'.cell? (ad357.add ((x4_1).toNat * 2)) = some (.int .i64 ((rd_T60 l0 x4_1).f0)) ∧ w'.cell? ⟨(ad357.add ((x4_1).toNat * 2)).block, (ad357.add ((x4_1).toNat * 2)).off + 1, none⟩ = some (.string ((rd_T60 l0 x4_1).f1))) (ds := []) #[false, false, false, false, false, false, false, false, false, false, false, false] (by kernel_rfl) rfl rfl ⟨((HB.out.cell (World.block_lt_of_cell? w _ hw357_0)).trans hw357_0), ((HB.out.cell (World.block_lt_of_cell? w _ hw357_1)).trans hw357_1)⟩ (fun hHeld => ?_); refine with_tabW metrolabref26_Gathered.tab11 metrolabref26_Gathered.bits11 (fun HT_ HW_ => ?_)
              generalize w52.drew = w53 at HO_3 HO356 HR353 HB HR364 hx357_0 hx357_1 hHeld ⊢
              refine pu_ (i := 0) (N := some 71) #[true, false, false, false, false, false, false, false, false, false, false, false] HT_.out ?_
              refine pu_ (i := 1) (N := some 72) #[true, true, false, false, false, false, false, false, false, false, false, false] HT_.out ?_
              refine pu_ (i := 2) (N := some 73) #[true, true, true, false, false, false, false, false, false, false, false, false] HT_.out ?_
              refine pu_ (i := 3) (N := some 74) #[true, true, true, true, false, false, false, false, false, false, false, false] HT_.out ?_
              refine pu_ (i := 7) (N := some 78) #[true, true, true, true, false, false, false, true, false, false, false, false] HT_.out ?_
              refine pu_ (i := 8) (N := some 79) #[true, true, true, true, false, false, false, true, true, false, false, false] HT_.out ?_
              refine pu_ (i := 9) (N := some 80) #[true, true, true, true, false, false, false, true, true, true, false, false] HT_.out ?_
              refine take_ (i := 4) (N := some 75) (v := ?_) (a' := ?_) #[true, true, true, true, true, false, false, true, true, true, false, false] rfl rfl (take_ofW HT_.out HW_.out (by kernel_rfl)) (fun _ _ _ h => h) (Or.inl ⟨by rfl, ?_⟩) hHeld ?_ ?_
              rotate_left
              ·rintro w' ⟨s0, s1⟩
               go_simp
               with_reducible rfl
              rotate_left
              ·simp only [Act.put, List.setIfInBounds_toArray, List.set_cons_zero, List.set_cons_succ, i64_w, i32_w]
               rfl
              refine one_ (i := 5) (N := some 76) #[true, true, true, true, true, true, false, true, true, true, false, false] rfl rfl (one_of HT_.out (by kernel_rfl)) (by decide) (fun K hK => ?_)
              refine value_ (w1 := ?_) (v := ?_) (by rfl) rfl ?_ ?_
              rotate_left 2
              ·go_simp
               constructor
               ·rfl
               ·rfl
              refine hK.out _ _ ⟨(World.cell?_alloc_lt _ _ _ (World.block_lt_of_cell? _ _ (((HB.out.cell (World.block_lt_of_cell? w _ hw357_0)).trans hw357_0)))).trans (((HB.out.cell (World.block_lt_of_cell? w _ hw357_0)).trans hw357_0)), (World.cell?_alloc_lt _ _ _ (World.block_lt_of_cell? _ _ (((HB.out.cell (World.block_lt_of_cell? w _ hw357_1)).trans hw357_1)))).trans (((HB.out.cell (World.block_lt_of_cell? w _ hw357_1)).trans hw357_1))⟩ (fun hHeld => ?_)
              clear hK K
              refine norm_ (a' := ?_) ?_ ?_
              rotate_left
              ·show Act.put _ (some 76) _ = _
               simp only [Act.put, List.setIfInBounds_toArray, List.set_cons_zero, List.set_cons_succ, i64_w, i32_w]
               rfl
              refine one_ (i := 6) (N := some 77) #[true, true, true, true, true, true, true, true, true, true, false, false] rfl rfl (one_of HT_.out (by kernel_rfl)) (by decide) (fun K hK => ?_)
              refine Kd.R_append_step k60 (w0 := w) w.heap.size (by rfl) (.tmp 71) (.tmp 76) 22 60 (.agg #[(.int .i64 0), (.string ⟨#[]⟩)]) 24 rfl Tryz.underlying22 info60 rfl (by decide) (by omega) v355 y354 (⟨(rd_T60 l0 x4_1).f0, (rd_T60 l0 x4_1).f1⟩ : S60) [.int .i64 ((rd_T60 l0 x4_1).f0), .string ((rd_T60 l0 x4_1).f1)] (fun k_ => some k_ ≠ (.slice Ao47 x3_1.length co47 : Value).ownBlock) (fun _ => False) rfl rfl ?aP (fun _ hk => hk.elim) ?aF ?aO ?aB ?aS ?aL ?_
              (case aP => exact k60_mkM _ _ _ (⟨(rd_T60 l0 x4_1).f0, (rd_T60 l0 x4_1).f1⟩ : S60))
              (case aB => exact z10_)
              (case aF => exact (fun k_ hk => Kd.fresh' (Kd.R_lt z23_) k_ hk))
              (case aO => exact (by (with_reducible repeat (first | apply Kd.R_alloc | apply Kd.R_drewN | apply Kd.R_drew)); exact HO356.out))
              (case aS => exact (below_size z10_))
              (case aL => have := LMc42.out; omega)
              intro v359 w55 ho hb hg hat
              rw [← Ny358.out] at ho
              have n0_ := Aside0.mk (Kd.R_after (ok := (fun _ => True)) z23_ hg hat)
              have n1_ := Aside0.mk (hb)
              have n2_ := Aside0.mk ((show Kd.C k60 w55 Ao47 y350.length y350 from by rw [Ny350.out]; exact Kd.C_take (m := (x5_2 : Int).toNat) ((Kd.R_reads' (Kd.R_after (ok := (fun _ => True)) z23_ hg hat)).2.2) KL51.out))
              have n3_ := Aside0.mk ((show Kd.C k60 w55 A54 y361.length y361 from by rw [Ny361.out, KA54.out]; exact Kd.C_drop (m := (x5_2 : Int).toNat) (c := co47) ((Kd.R_reads' (Kd.R_after (ok := (fun _ => True)) z23_ hg hat)).2.2) KL54.out ((Kd.R_reads' (Kd.R_after (ok := (fun _ => True)) z23_ hg hat)).2.1)))
              have n4_ := Aside0.mk (ho)
              clear HO_3
              clear HB
              clear HR353
              clear HR364
              clear HO356
              have HO_3 := n0_
              have HB := n1_
              have HR353 := n2_
              have HR364 := n3_
              have HO360 := n4_
              clear n0_ n1_ n2_ n3_ n4_
              clear ho hb hg hat
              refine hK.out _ _ ⟨((HB.out.cell (World.block_lt_of_cell? w _ hw357_0)).trans hw357_0), ((HB.out.cell (World.block_lt_of_cell? w _ hw357_1)).trans hw357_1)⟩ (fun hHeld => ?_)
              clear hK K
              refine norm_ (a' := ?_) ?_ ?_
              rotate_left
              ·show Act.put _ (some 77) _ = _
               simp only [Act.put, List.setIfInBounds_toArray, List.set_cons_zero, List.set_cons_succ, i64_w, i32_w]
               rfl
              refine one_ (i := 10) (N := some 81) #[true, true, true, true, true, true, true, true, true, true, true, false] rfl rfl (one_of HT_.out (by kernel_rfl)) (by decide) (fun K hK => ?_)
              refine Kd.R_append_rows_step k60 (w0 := w) w.heap.size (by rfl) (.tmp 77) (.tmp 80) 22 60 (.agg #[(.int .i64 0), (.string ⟨#[]⟩)]) 24 rfl Tryz.underlying22 info60 rfl (by decide) (by omega) v359 y358 y361 _ _ _ (fun k_ => some k_ ≠ (.slice Ao47 x3_1.length co47 : Value).ownBlock) (fun _ => False) rfl rfl ?aO ?aR (fun _ _ h => h) (fun _ h => h.elim) ?aF ?aB ?aS ?aL ?_
              (case aR => repeat (first | exact (by repeat (first | (with_reducible exact HR364.out) | (with_reducible refine Kd.C_alloc ?_ _) | (with_reducible refine Kd.C_drewN ?_ _) | (with_reducible refine Kd.C_drew ?_) | exact HR364.out)) | (with_reducible refine Kd.C_alloc ?_ _) | (with_reducible refine Kd.C_drewN ?_ _) | (with_reducible refine Kd.C_drew ?_)))
              (case aB => exact z10_)
              (case aF => exact (fun k_ hk => Kd.fresh' (Kd.R_lt z23_) k_ hk))
              (case aO => exact (by (with_reducible repeat (first | apply Kd.R_alloc | apply Kd.R_drewN | apply Kd.R_drew)); exact HO360.out))
              (case aS => exact (below_size z10_))
              (case aL => have := LMc45.out; omega)
              intro v366 w56 ho hb hg hat
              rw [← Ny365.out] at ho
              have n0_ := Aside0.mk (Kd.R_after (ok := (fun _ => True)) z23_ hg hat)
              have n1_ := Aside0.mk (hb)
              have n2_ := Aside0.mk ((show Kd.C k60 w56 Ao47 y350.length y350 from by rw [Ny350.out]; exact Kd.C_take (m := (x5_2 : Int).toNat) ((Kd.R_reads' (Kd.R_after (ok := (fun _ => True)) z23_ hg hat)).2.2) KL51.out))
              have n3_ := Aside0.mk ((show Kd.C k60 w56 A54 y361.length y361 from by rw [Ny361.out, KA54.out]; exact Kd.C_drop (m := (x5_2 : Int).toNat) (c := co47) ((Kd.R_reads' (Kd.R_after (ok := (fun _ => True)) z23_ hg hat)).2.2) KL54.out ((Kd.R_reads' (Kd.R_after (ok := (fun _ => True)) z23_ hg hat)).2.1)))
              have n4_ := Aside0.mk (ho)
              clear HO_3
              clear HB
              clear HR353
              clear HR364
              clear HO360
              have HO_3 := n0_
              have HB := n1_
              have HR353 := n2_
              have HR364 := n3_
              have HO367 := n4_
              clear n0_ n1_ n2_ n3_ n4_
              clear ho hb hg hat
              refine hK.out _ _ ⟨((HB.out.cell (World.block_lt_of_cell? w _ hw357_0)).trans hw357_0), ((HB.out.cell (World.block_lt_of_cell? w _ hw357_1)).trans hw357_1)⟩ (fun hHeld => ?_)
              clear hK K
              refine norm_ (a' := ?_) ?_ ?_
              rotate_left
              ·show Act.put _ (some 81) _ = _
               simp only [Act.put, List.setIfInBounds_toArray, List.set_cons_zero, List.set_cons_succ, i64_w, i32_w]
               rfl
              refine pu_ (i := 11) (N := some 3) #[true, true, true, true, true, true, true, true, true, true, true, true] HT_.out ?_
              refine done_ (done_of HT_.out (by kernel_rfl)) ?_
              try go_wp2
              go_roundg k2
              case measure => have := HK1.out; have := HK2.out; omega
              case rel => exact ⟨(y365), (wrap64 (x4_1 + 1)), z25_, H', ⟨by have := HK1.out; have := HK2.out; omega⟩, ⟨by (with_reducible repeat (first | apply Kd.R_alloc | apply Kd.R_drewN | apply Kd.R_drew)); exact Kd.R_mono HO367.out (fun _ hk => trivial)⟩, ⟨by repeat (first | (with_reducible first | exact HB.out | apply below_alloc | apply pw_below_drewN | apply below_drew1) | exact HB.out)⟩⟩
             ·rw [if_neg c45] at H
              exact absurd H (by simp)
            ·rw [if_neg c42] at H
             exact absurd H (by simp)
           ·rw [if_neg c41] at H
            exact absurd H (by simp)
          ·rw [if_neg c40] at H
           exact absurd H (by simp)
         ·rw [if_neg c39] at H
          exact absurd H (by simp)
        ·rw [if_neg c38] at H
         exact absurd H (by simp)
       ·rw [if_neg c37] at H
        exact absurd H (by simp)
   ·rw [if_neg c2] at H
    have c2b0 : decide (x4_1 < (l0.length : Int)) = false := decide_eq_false c2
    clear c2
    have H' := Aside0.mk H
    clear H
    go_wp2
    go_loopg [7, 8] k1 (fun kq v7 v8 w' => ∃ (x7_2 : List (S60)) (x8_2 : Int), v8 = .int .i64 x8_2 ∧ Aside0 (metrolabref26_Gathered.l2 kq x3_1 x7_2 x8_2 = some r) ∧ Aside0 (kq ≤ k1) ∧ Aside0 (Kd.R k60 60 w' w.heap.size (fun k_ => some k_ ≠ (v7 : Value).ownBlock) u3 x3_1) ∧ Aside0 (Kd.R k60 60 w' w.heap.size (fun k_ => some k_ ≠ (u3 : Value).ownBlock) v7 x7_2) ∧ Aside0 (Below w.heap.size w w'))
    case atStart => exact ⟨(([] : List (S60))), (0), z25_, H', ⟨Nat.le_refl _⟩, ⟨by (with_reducible repeat (first | apply Kd.R_alloc | apply Kd.R_drewN | apply Kd.R_drew)); exact Kd.R_mono HO_3.out (fun _ hk => (by simp [Value.ownBlock]))⟩, ⟨by first | exact Kd.R_nil _ _ _ _ _ | exact Kd.N_nil _ _ _ _ _ | exact Kd.V_nil _ _ _ _ _ | exact Kd.Q_nil _ _ _ _ _ | exact Kd.S_nil _ _ _ _ _⟩, ⟨by repeat (first | (with_reducible first | exact HB.out | apply below_alloc | apply pw_below_drewN | apply below_drew1) | exact HB.out)⟩⟩
    case round =>
     clear H'
     try clear c1
     try clear c2
     try clear c2b0
     try clear p2
     try clear c3
     try clear c3b0
     try clear p3
     try clear q3
     try clear hx3
     try clear c4
     try clear c5
     try clear q5
     try clear c6
     try clear p6
     try clear c20
     try clear c21
     try clear c22
     try clear c25
     try clear p35
     try clear q35
     try clear hx35
     try clear c37
     try clear c37b0
     try clear c37b1
     try clear c38
     try clear c38b0
     try clear c38b1
     try clear c39
     try clear c40
     try clear c40b0
     try clear c41
     try clear c41b0
     try clear c42
     try clear c43
     try clear c43b0
     try clear c44
     try clear c44b0
     try clear c45
     try clear q51
     try clear c54
     try clear q54
     try clear hx357_0
     try clear hx357_1
     try clear p357
     try clear q054
     try clear q357
     try clear q51
     try clear q54
     obtain ⟨x7_2, x8_2, rfl, HA, HK2, HO_3, HO_7, HB⟩ := hrel
     cases gk with
     | zero => exact absurd HA.out (by simp [metrolabref26_Gathered.l2])
     | succ k2 =>
      have H := HA.out
      clear HA
      simp only [metrolabref26_Gathered.l2] at H
      by_cases c57 : x8_2 < (x3_1.length : Int)
      ·rw [if_pos c57] at H
       have c57b0 : decide (x8_2 < (x3_1.length : Int)) = true := decide_eq_true c57
       clear c57
       by_cases c58 : 0 ≤ x8_2
       ·rw [if_pos c58] at H
        have c58b0 : decide (0 ≤ x8_2) = true := decide_eq_true c58
        clear c58
        by_cases c59 : ((rd_T60 x3_1 x8_2).f1).toList = ([48] : List UInt8)
        ·rw [if_pos c59] at H
         have c59b0 := beq_iff_eq.mpr c59
         have c59b1 := bne_eq_false_iff_eq.mpr c59
         clear c59
         have H' := Aside0.mk H
         clear H
         obtain ⟨Ao60, co60, eo60⟩ := Kd.R_slice HO_3.out
         subst eo60
         have p368 : 0 ≤ (x8_2 : Int) := of_decide_eq_true z26_
         have q368 : x8_2 < (x3_1.length : Int) := of_decide_eq_true z26_
         obtain ⟨ad368, e368, hx368_0, hx368_1⟩ := at_T60 (Kd.R_reads' HO_3.out).2.2 x8_2 p368 q368
         cases e368
         replace p368 := eq_true p368
         replace q368 := eq_true q368
         go_wp2
         go_roundg k2
         case measure => have := HK1.out; have := HK2.out; omega
         case rel => exact ⟨(x7_2), (wrap64 (x8_2 + 1)), z25_, H', ⟨by have := HK1.out; have := HK2.out; omega⟩, ⟨by (with_reducible repeat (first | apply Kd.R_alloc | apply Kd.R_drewN | apply Kd.R_drew)); first | exact HO_3.out | (simp only [w64_m256]; exact HO_3.out)⟩, ⟨by (with_reducible repeat (first | apply Kd.R_alloc | apply Kd.R_drewN | apply Kd.R_drew)); first | exact HO_7.out | (simp only [w64_m256]; exact HO_7.out)⟩, ⟨by repeat (first | (with_reducible first | exact HB.out | apply below_alloc | apply pw_below_drewN | apply below_drew1) | exact HB.out)⟩⟩
        ·rw [if_neg c59] at H
         have c59b0 := beq_eq_false_iff_ne.mpr c59
         have c59b1 := bne_iff_ne.mpr c59
         by_cases c61 : x7_2.length < 5864062014805
         ·rw [if_pos c61] at H
          have LMc61 := Aside0.mk c61
          clear c61
          obtain ⟨y370, hy370⟩ : ∃ y_ : List (S60), y_ = (x7_2 ++ [(⟨(rd_T60 x3_1 x8_2).f0, (rd_T60 x3_1 x8_2).f1⟩ : S60)]) := ⟨_, rfl⟩
          replace H : (metrolabref26_Gathered.l2 k2 x3_1 y370 (wrap64 (x8_2 + 1))) = some r := by first | (rw [hy370]; with_reducible exact H) | (have H2_ := (Option.bind_some _ _).symm.trans H; rw [hy370]; with_reducible exact H2_) | (have H2_ := (Option.bind_some _ _).symm.trans H; with_reducible exact H2_) | with_reducible exact H | (rw [hy370]; exact H) | exact H
          have Ny370 := Aside0.mk hy370
          clear hy370
          have H' := Aside0.mk H
          clear H
          obtain ⟨Ao62, co62, eo62⟩ := Kd.R_slice HO_3.out
          subst eo62
          have p368 : 0 ≤ (x8_2 : Int) := of_decide_eq_true z26_
          have q368 : x8_2 < (x3_1.length : Int) := of_decide_eq_true z26_
          obtain ⟨ad368, e368, hx368_0, hx368_1⟩ := at_T60 (Kd.R_reads' HO_3.out).2.2 x8_2 p368 q368
          cases e368
          replace p368 := eq_true p368
          replace q368 := eq_true q368
          have p369 : 0 ≤ (x8_2 : Int) := of_decide_eq_true z26_
          have q369 : x8_2 < (x3_1.length : Int) := of_decide_eq_true z26_
          obtain ⟨ad369, e369, hx369_0, hx369_1⟩ := at_T60 (Kd.R_reads' HO_3.out).2.2 x8_2 p369 q369
          obtain rfl : ad368 = ad369 := (by injection e369)
          replace p369 := eq_true p369
          replace q369 := eq_true q369
          go_wp2_with (first | ((with_reducible refine gate_builtin (b := .append) (xs := #[.tmp 94, .tmp 99]) rfl ?_); at_builtin; refine Kd.R_append k60 (w0 := w) w.heap.size rfl (.tmp 94) (.tmp 99) 22 60 (.agg #[(.int .i64 0), (.string ⟨#[]⟩)]) 24 rfl Tryz.underlying22 info60 rfl (by decide) (by omega) u7 x7_2 (⟨(rd_T60 x3_1 x8_2).f0, (rd_T60 x3_1 x8_2).f1⟩ : S60) [.int .i64 ((rd_T60 x3_1 x8_2).f0), .string ((rd_T60 x3_1 x8_2).f1)] (fun k_ => some k_ ≠ (.slice (some ad368) x3_1.length co62 : Value).ownBlock) (fun _ => False) rfl rfl ?aP (fun _ hk => hk.elim) ?aF ?aO ?aB ?aS ?aL ?_; (case aP => exact k60_mkM _ _ _ (⟨(rd_T60 x3_1 x8_2).f0, (rd_T60 x3_1 x8_2).f1⟩ : S60)); (case aB => exact z10_); (case aF => exact (fun k_ hk => Kd.fresh' (Kd.R_lt z23_) k_ hk)); (case aO => exact z21_); (case aS => exact (below_size z10_)); (case aL => have := LMc61.out; omega); intro v371 w63 ho hb hg hat; rw [← Ny370.out] at ho; have n0_ := Aside0.mk (Kd.R_after (ok := (fun _ => True)) (by (with_reducible repeat (first | apply Kd.R_alloc | apply Kd.R_drewN | apply Kd.R_drew)); exact Kd.R_mono HO_3.out (fun _ hk => ⟨trivial, hk⟩)) hg hat); have n1_ := Aside0.mk (hb); have n2_ := Aside0.mk (ho); clear HO_3; clear HB; clear HO_7; have HO_3 := n0_; have HB := n1_; have HO372 := n2_; clear n0_ n1_ n2_; clear ho hb hg hat))
          go_roundg k2
          case measure => have := HK1.out; have := HK2.out; omega
          case rel => exact ⟨(y370), (wrap64 (x8_2 + 1)), z25_, H', ⟨by have := HK1.out; have := HK2.out; omega⟩, ⟨by (with_reducible repeat (first | apply Kd.R_alloc | apply Kd.R_drewN | apply Kd.R_drew)); exact Kd.R_mono HO_3.out (fun _ hk => hk.2)⟩, ⟨by (with_reducible repeat (first | apply Kd.R_alloc | apply Kd.R_drewN | apply Kd.R_drew)); first | exact HO372.out | (simp only [w64_m256]; exact HO372.out)⟩, ⟨by repeat (first | (with_reducible first | exact HB.out | apply below_alloc | apply pw_below_drewN | apply below_drew1) | exact HB.out)⟩⟩
         ·rw [if_neg c61] at H
          exact absurd H (by simp)
       ·rw [if_neg c58] at H
        exact absurd H (by simp)
      ·rw [if_neg c57] at H
       have c57b0 : decide (x8_2 < (x3_1.length : Int)) = false := decide_eq_false c57
       clear c57
       obtain rfl := Option.some.inj H
       obtain ⟨Ao64, co64, eo64⟩ := Kd.R_slice HO_3.out
       subst eo64
       go_wp2
       go_ret
       exact ⟨_, z24_, by (with_reducible repeat (first | apply Kd.R_alloc | apply Kd.R_drewN | apply Kd.R_drew)); exact Kd.R_mono HO_7.out (fun _ hk => trivial), z10_⟩
end Go.Proofs.YtkdpcgmnkifbbaaGreatDoor.D
