/- Joined by a program of this session out of its texts, with only what the last theorem needs: Dx2. No conditions but those stated. -/
import Derived.Test.YtkdpcgmnkifbbaaGreatDoorZC07
import Derived.Test.YtkdpcgmnkifbbaaGreatDoorZC29
set_option linter.unusedVariables false
set_option linter.unusedSimpArgs false
namespace Go.Proofs.YtkdpcgmnkifbbaaGreatDoorW.PrintLast
end Go.Proofs.YtkdpcgmnkifbbaaGreatDoorW.PrintLast
namespace Go.Proofs.YtkdpcgmnkifbbaaGreatDoorW.PrintMore
end Go.Proofs.YtkdpcgmnkifbbaaGreatDoorW.PrintMore
namespace Go.Proofs.YtkdpcgmnkifbbaaGreatDoorW.PrintWords
end Go.Proofs.YtkdpcgmnkifbbaaGreatDoorW.PrintWords
namespace Go.Proofs.YtkdpcgmnkifbbaaGreatDoor.D
open Go.RowKit Go.Proofs.YtkdpcgmnkifbbaaGreatDoorW.PrintWords Go.Proofs.YtkdpcgmnkifbbaaGreatDoorW.PrintLast Go.Proofs.YtkdpcgmnkifbbaaGreatDoorW.PrintMore
attribute [local go_sem] max2_int min2_int max_two min_two max_three min_three max_four min_four
set_option linter.unusedVariables false
set_option linter.unusedSimpArgs false
mutual
def metrolabref26_Few.l0 : Nat → List (S60) → Int → Option (Bool)
 | 0, _, _ => none
 | k + 1, x0, x3 => if x3 < (x0.length : Int) then (metrolabref26_Few.j1 k x0 x3 (decide (x3 < 13))) else (metrolabref26_Few.j1 k x0 x3 false)
def metrolabref26_Few.j1 : Nat → List (S60) → Int → Bool → Option (Bool)
 | 0, _, _, _ => none
 | k + 1, x0, x3, x11 => if x11 = true then (if 0 ≤ x3 then (if x3 < (x0.length : Int) then (if (((rd_T60 x0 x3).f1).size : Int) > 20 then (some false) else (metrolabref26_Few.l0 k x0 (wrap64 (x3 + 1)))) else (none)) else (none)) else (if (x0.length : Int) ≤ 12 then (some true) else (if (x0.length : Int) > 4096 then (some (decide ((x0.length : Int) < 8192))) else (some false)))
end
def metrolabref26_Few.f (k : Nat) (l0 : List (S60)) : Option (Bool) := metrolabref26_Few.l0 k l0 0
set_option maxHeartbeats 8000000 in
set_option maxRecDepth 100000 in
theorem metrolabref26_Few.calls (k : Nat) (A0 : Option Addr) (c0 : Nat) (l0 : List (S60)) (r : Bool) (w : World) (hr0 : Kd.C k60 w A0 l0.length l0) (hc0 : l0.length ≤ c0) (h : metrolabref26_Few.f k l0 = some r) :
  Calls Tryz.prog 7 #[.slice A0 l0.length c0] w fun e w' => e = .returned (.bool r) ∧ Drawn0 w w' := by
 have HR0 := Aside0.mk hr0
 have HC0 := Aside0.mk hc0
 clear hr0 hc0
 have H : (metrolabref26_Few.l0 k l0 0) = some r := h
 clear h
 have H' := Aside0.mk H
 clear H
 go_enter Tryz.func7, Tryz.ntmps7
 go_wp2
 go_loopg [3] k (fun kq v3 w' => ∃ (x3_1 : Int), v3 = .int .i64 x3_1 ∧ Aside0 (metrolabref26_Few.l0 kq l0 x3_1 = some r) ∧ Aside0 (kq ≤ k) ∧ Drawn0 w w')
 case atStart => exact ⟨(0), z25_, H', ⟨Nat.le_refl _⟩, by repeat (first | exact Drawn0.refl _ | apply Drawn0.step)⟩
 case round =>
  clear H'
  obtain ⟨x3_1, rfl, HA, HK1, ⟨m1, rfl⟩⟩ := hrel
  cases gk with
  | zero => exact absurd HA.out (by simp [metrolabref26_Few.l0])
  | succ k1 =>
   have H := HA.out
   clear HA
   simp only [metrolabref26_Few.l0] at H
   have HC2 := Aside0.mk H
   clear H
   go_upto_region 2 with (fail)
   go_cut [11] (fun v11 wc => ∃ (kq : Nat) (x11_1 : Bool), v11 = .bool x11_1 ∧ Aside0 (metrolabref26_Few.j1 kq l0 x3_1 x11_1 = some r) ∧ Aside0 (kq ≤ k1) ∧ Drawn0 w wc)
   case first =>
    have H := HC2.out
    clear HC2
    by_cases c3 : x3_1 < (l0.length : Int)
    ·rw [if_pos c3] at H
     have c3b0 : decide (x3_1 < (l0.length : Int)) = true := decide_eq_true c3
     clear c3
     (first | rw [c3b0] | (simp only [i64_w, i32_w]; rw [c3b0]) | skip)
     have H' := Aside0.mk H
     clear H
     go_wp2
     go_meet
     case rel => exact ⟨_, (decide (x3_1 < 13)), z25_, H', ⟨by have := HK1.out; first | omega | exact Nat.le_refl _⟩, by repeat (first | exact Drawn0.refl _ | apply Drawn0.step)⟩
    ·rw [if_neg c3] at H
     have c3b0 : decide (x3_1 < (l0.length : Int)) = false := decide_eq_false c3
     clear c3
     (first | rw [c3b0] | (simp only [i64_w, i32_w]; rw [c3b0]) | skip)
     have H' := Aside0.mk H
     clear H
     go_wp2
     go_meet
     case rel => exact ⟨_, (false), z25_, H', ⟨by have := HK1.out; first | omega | exact Nat.le_refl _⟩, by repeat (first | exact Drawn0.refl _ | apply Drawn0.step)⟩
   case rest =>
    clear HC2
    try clear p2
    try clear c3
    try clear c3b0
    obtain ⟨kq, x11_1, rfl, HA, HJ1, ⟨mc1, rfl⟩⟩ := hcut
    cases kq with
    | zero => exact absurd HA.out (by simp [metrolabref26_Few.j1])
    | succ kj1 =>
     have H := HA.out
     clear HA
     simp only [metrolabref26_Few.j1] at H
     by_cases c4 : x11_1 = true
     ·subst c4
      rw [if_pos rfl] at H
      by_cases c5 : 0 ≤ x3_1
      ·rw [if_pos c5] at H
       have c5b0 : decide (0 ≤ x3_1) = true := decide_eq_true c5
       clear c5
       by_cases c6 : x3_1 < (l0.length : Int)
       ·rw [if_pos c6] at H
        have c6b0 : decide (x3_1 < (l0.length : Int)) = true := decide_eq_true c6
        clear c6
        by_cases c7 : (((rd_T60 l0 x3_1).f1).size : Int) > 20
        ·rw [if_pos c7] at H
         have c7b0 : decide (20 < (((rd_T60 l0 x3_1).f1).size : Int)) = true := decide_eq_true c7
         have c7b1 : decide (20 < ((rd_T60 l0 x3_1).f1).size) = true := decide_eq_true (by omega)
         clear c7
         obtain rfl := Option.some.inj H
         have p101 : 0 ≤ (x3_1 : Int) := of_decide_eq_true z26_
         have q101 : x3_1 < (l0.length : Int) := of_decide_eq_true z26_
         obtain ⟨ad101, e101, hx101_0, hx101_1⟩ := at_T60 HR0.out x3_1 p101 q101
         cases e101
         replace p101 := eq_true p101
         replace q101 := eq_true q101
         go_wp2
         go_ret
         exact ⟨by first | rfl | (simp; done) | (simp [*]; done), by repeat (first | exact Drawn0.refl _ | apply Drawn0.step)⟩
        ·rw [if_neg c7] at H
         have c7b0 : decide (20 < (((rd_T60 l0 x3_1).f1).size : Int)) = false := decide_eq_false c7
         have c7b1 : decide (20 < ((rd_T60 l0 x3_1).f1).size) = false := decide_eq_false (by omega)
         clear c7
         have H' := Aside0.mk H
         clear H
         have p101 : 0 ≤ (x3_1 : Int) := of_decide_eq_true z26_
         have q101 : x3_1 < (l0.length : Int) := of_decide_eq_true z26_
         obtain ⟨ad101, e101, hx101_0, hx101_1⟩ := at_T60 HR0.out x3_1 p101 q101
         cases e101
         replace p101 := eq_true p101
         replace q101 := eq_true q101
         go_wp2
         go_roundg kj1
         case measure => have := HK1.out; have := HJ1.out; omega
         case rel => exact ⟨(wrap64 (x3_1 + 1)), z25_, H', ⟨by have := HK1.out; have := HJ1.out; omega⟩, by repeat (first | exact Drawn0.refl _ | apply Drawn0.step)⟩
       ·rw [if_neg c6] at H
        exact absurd H (by simp)
      ·rw [if_neg c5] at H
       exact absurd H (by simp)
     ·replace c4 := Bool.eq_false_iff.mpr c4
      subst c4
      rw [if_neg (show ¬ (false = true) by decide)] at H
      by_cases c8 : (l0.length : Int) ≤ 12
      ·rw [if_pos c8] at H
       have c8b0 : decide ((l0.length : Int) ≤ 12) = true := decide_eq_true c8
       have c8b1 : decide (l0.length ≤ 12) = true := decide_eq_true (by omega)
       clear c8
       obtain rfl := Option.some.inj H
       go_wp2
       go_ret
       exact ⟨by first | rfl | (simp; done) | (simp [*]; done), by repeat (first | exact Drawn0.refl _ | apply Drawn0.step)⟩
      ·rw [if_neg c8] at H
       have c8b0 : decide ((l0.length : Int) ≤ 12) = false := decide_eq_false c8
       have c8b1 : decide (l0.length ≤ 12) = false := decide_eq_false (by omega)
       clear c8
       by_cases c9 : (l0.length : Int) > 4096
       ·rw [if_pos c9] at H
        have c9b0 : decide (4096 < (l0.length : Int)) = true := decide_eq_true c9
        have c9b1 : decide (4096 < l0.length) = true := decide_eq_true (by omega)
        clear c9
        obtain rfl := Option.some.inj H
        go_wp2
        go_ret
        exact ⟨by first | rfl | (simp; done) | (simp [*]; done), by repeat (first | exact Drawn0.refl _ | apply Drawn0.step)⟩
       ·rw [if_neg c9] at H
        have c9b0 : decide (4096 < (l0.length : Int)) = false := decide_eq_false c9
        have c9b1 : decide (4096 < l0.length) = false := decide_eq_false (by omega)
        clear c9
        obtain rfl := Option.some.inj H
        go_wp2
        go_ret
        exact ⟨by first | rfl | (simp; done) | (simp [*]; done), by repeat (first | exact Drawn0.refl _ | apply Drawn0.step)⟩
mutual
def dist_Quantile.j0 : Nat → List (S60) → ByteArray → Bool → Option (Int × Int)
 | 0, _, _, _ => none
 | k + 1, x0, x1, x43 => if x43 = true then (some (0, 2)) else (dist_Quantile.l0 k x0 x1 x0 (x0.length : Int) 0)
def dist_Quantile.l0 : Nat → List (S60) → ByteArray → List (S60) → Int → Int → Option (Int × Int)
 | 0, _, _, _, _, _ => none
 | k + 1, x0, x1, x44, x45, x46 => if x46 < x45 then (if 0 ≤ x46 then (if x46 < (x44.length : Int) then ((dist_Probability.f x0 (-1048576) ((rd_T60 x44 x46).f0)).bind fun bt111 => (if bt111.2 = 0 then ((ratio_Compare.f bt111.1 x1).bind fun bt113 => (if bt113.2 = 0 then (if bt113.1 ≥ 0 then (some ((rd_T60 x44 x46).f0, bt113.2)) else (dist_Quantile.l0 k x0 x1 x44 x45 (wrap64 (x46 + 1)))) else (some ((rd_T60 x44 x46).f0, bt113.2)))) else (some (0, bt111.2)))) else (none)) else (none)) else (if 0 ≤ (wrap64 ((x0.length : Int) - 1)) then (if (wrap64 ((x0.length : Int) - 1)) < (x0.length : Int) then (some ((rd_T60 x0 (wrap64 ((x0.length : Int) - 1))).f0, 0)) else (none)) else (none))
end
def dist_Quantile.f (k : Nat) (l0 : List (S60)) (a1 : ByteArray) : Option (Int × Int) := (dist_Check.f l0).bind fun t102 => (if t102 = 0 then ((ratio_Check.f a1).bind fun t103 => (if t103 = 0 then ((ratio_Compare.f a1 (⟨#[48]⟩ : ByteArray)).bind fun bt104 => ((ratio_Compare.f a1 (⟨#[49]⟩ : ByteArray)).bind fun bt106 => (if bt104.1 < 0 then (dist_Quantile.j0 k l0 a1 true) else (dist_Quantile.j0 k l0 a1 (decide (bt106.1 > 0)))))) else (some (0, t103)))) else (some (0, t102)))
set_option maxHeartbeats 8000000 in
set_option maxRecDepth 100000 in
theorem dist_Quantile.calls (k : Nat) (A0 : Option Addr) (c0 : Nat) (l0 : List (S60)) (a1 : ByteArray) (r1 : Int) (r2 : Int) (w : World) (hr0 : Kd.C k60 w A0 l0.length l0) (hc0 : l0.length ≤ c0) (h : dist_Quantile.f k l0 a1 = some (r1, r2)) (HT : Aside0 (Tabs w)) :
  Calls Tryz.prog 12 #[.slice A0 l0.length c0, .string a1] w fun e w' => e = .returned (.tuple #[.int .i64 r1, .int .i64 r2]) ∧ Below w.heap.size w w' := by
 have hu60 := Tryz.underlying60
 have hu24 := Tryz.underlying24
 have HR0 := Aside0.mk hr0
 have HC0 := Aside0.mk hc0
 clear hr0 hc0
 have HB := Aside0.mk (Below.refl w.heap.size w)
 have H : ((dist_Check.f l0).bind fun t102 => (if t102 = 0 then ((ratio_Check.f a1).bind fun t103 => (if t103 = 0 then ((ratio_Compare.f a1 (⟨#[48]⟩ : ByteArray)).bind fun bt104 => ((ratio_Compare.f a1 (⟨#[49]⟩ : ByteArray)).bind fun bt106 => (if bt104.1 < 0 then (dist_Quantile.j0 k l0 a1 true) else (dist_Quantile.j0 k l0 a1 (decide (bt106.1 > 0)))))) else (some (0, t103)))) else (some (0, t102)))) = some (r1, r2) := h
 clear h
 obtain ⟨t102, A3, H⟩ := bindA H
 by_cases c4 : t102 = 0
 ·rw [if_pos c4] at H
  have c4b0 := beq_iff_eq.mpr c4
  have c4b1 := bne_eq_false_iff_eq.mpr c4
  clear c4
  obtain ⟨t103, A5, H⟩ := bindA H
  by_cases c6 : t103 = 0
  ·rw [if_pos c6] at H
   have c6b0 := beq_iff_eq.mpr c6
   have c6b1 := bne_eq_false_iff_eq.mpr c6
   clear c6
   obtain ⟨⟨t104, t105⟩, A7, H⟩ := bindA H
   dsimp only at H
   obtain ⟨⟨t106, t107⟩, A8, H⟩ := bindA H
   dsimp only at H
   have HC9 := Aside0.mk H
   clear H
   go_enter Tryz.func12, Tryz.ntmps12
   go_upto_region 9 with (first | ((with_reducible refine gate_callee (f := 20) rfl ?_); refine goesL_ (some 19) rfl rfl Tryz.func20 (by kernel_rfl) rfl #[.slice A0 l0.length c0] rfl z9_ ?_; (with_reducible refine (dist_Check.calls _ _ l0 t102 _ ?side1 ?side2 A3.out).mono ?_); (case side1 => repeat (first | exact HR0.out | (with_reducible refine Kd.C_alloc ?_ _) | (with_reducible refine Kd.C_drewN ?_ _) | (with_reducible refine Kd.C_drew ?_))); (case side2 => exact HC0.out); rintro e w10 ⟨rfl, hb⟩; refine ⟨_, rfl, ?_⟩; replace HB := Aside0.mk (below_step z10_ hb); clear hb) | (refine gy (f := 36) rfl (some 24) rfl Tryz.func36 (ratio_Check.calls a1 t103 _ A5.out (Aside0.mk (Tabs.below HT.out z4_))) z10_ ?_; clear HB; intro w11 HB) | (refine gy (f := 37) rfl (some 30) rfl Tryz.func37 (ratio_Compare.calls a1 (⟨#[48]⟩ : ByteArray) t104 t105 _ A7.out (Aside0.mk (Tabs.below HT.out z4_))) z10_ ?_; clear HB; intro w12 HB) | (refine gy (f := 37) rfl (some 35) rfl Tryz.func37 (ratio_Compare.calls a1 (⟨#[49]⟩ : ByteArray) t106 t107 _ A8.out (Aside0.mk (Tabs.below HT.out z4_))) z10_ ?_; clear HB; intro w13 HB))
   (try simp only [Act.put, List.setIfInBounds_toArray, List.set_cons_zero, List.set_cons_succ])
   go_cut [43] (fun v43 wc => ∃ (kq : Nat) (x43_8 : Bool), v43 = .bool x43_8 ∧ Aside0 (dist_Quantile.j0 kq l0 a1 x43_8 = some (r1, r2)) ∧ Aside0 (kq ≤ k) ∧ Aside0 (Below w.heap.size w wc))
   case first =>
    have H := HC9.out
    clear HC9
    by_cases c14 : t104 < 0
    ·rw [if_pos c14] at H
     have c14b0 : decide (t104 < 0) = true := decide_eq_true c14
     clear c14
     (first | rw [c14b0] | (simp only [i64_w, i32_w]; rw [c14b0]) | skip)
     have H' := Aside0.mk H
     clear H
     go_wp2
     go_meet
     case rel => exact ⟨_, (true), z25_, H', ⟨by first | omega | exact Nat.le_refl _⟩, ⟨by repeat (first | (with_reducible first | exact HB.out | apply below_alloc | apply pw_below_drewN | apply below_drew1) | exact HB.out)⟩⟩
    ·rw [if_neg c14] at H
     have c14b0 : decide (t104 < 0) = false := decide_eq_false c14
     clear c14
     (first | rw [c14b0] | (simp only [i64_w, i32_w]; rw [c14b0]) | skip)
     have H' := Aside0.mk H
     clear H
     go_wp2
     go_meet
     case rel => exact ⟨_, (decide (t106 > 0)), z25_, H', ⟨by first | omega | exact Nat.le_refl _⟩, ⟨by repeat (first | (with_reducible first | exact HB.out | apply below_alloc | apply pw_below_drewN | apply below_drew1) | exact HB.out)⟩⟩
   case rest =>
    clear HC9
    try clear c1
    try clear c2
    try clear p2
    try clear c3
    try clear c4
    try clear c4b0
    try clear c4b1
    try clear c6
    try clear c6b0
    try clear c6b1
    try clear c12
    try clear c14
    try clear c14b0
    obtain ⟨kq, x43_8, rfl, HA, HJ8, HB⟩ := hcut
    cases kq with
    | zero => exact absurd HA.out (by simp [dist_Quantile.j0])
    | succ kj8 =>
     have H := HA.out
     clear HA
     simp only [dist_Quantile.j0] at H
     by_cases c15 : x43_8 = true
     ·subst c15
      rw [if_pos rfl] at H
      simp only [Option.some.injEq, Prod.mk.injEq] at H
      obtain ⟨rfl, rfl⟩ := H
      go_wp2
      go_ret2
      exact ⟨z24_, z10_⟩
     ·replace c15 := Bool.eq_false_iff.mpr c15
      subst c15
      rw [if_neg (show ¬ (false = true) by decide)] at H
      have H' := Aside0.mk H
      clear H
      go_wp2
      go_loopg [46] kj8 (fun kq v46 w' => ∃ (x46_2 : Int), v46 = .int .i64 x46_2 ∧ Aside0 (dist_Quantile.l0 kq l0 a1 l0 (l0.length : Int) x46_2 = some (r1, r2)) ∧ Aside0 (kq ≤ kj8) ∧ Aside0 (Below w.heap.size w w'))
      case atStart => exact ⟨(0), z25_, H', ⟨Nat.le_refl _⟩, ⟨by repeat (first | (with_reducible first | exact HB.out | apply below_alloc | apply pw_below_drewN | apply below_drew1) | exact HB.out)⟩⟩
      case round =>
       clear H'
       try clear c1
       try clear c2
       try clear p2
       try clear c3
       try clear c4
       try clear c4b0
       try clear c4b1
       try clear c6
       try clear c6b0
       try clear c6b1
       try clear c12
       try clear c14
       try clear c14b0
       try clear c15
       try clear p2
       obtain ⟨x46_2, rfl, HA, HK2, HB⟩ := hrel
       cases gk with
       | zero => exact absurd HA.out (by simp [dist_Quantile.l0])
       | succ k2 =>
        have H := HA.out
        clear HA
        simp only [dist_Quantile.l0] at H
        by_cases c16 : x46_2 < (l0.length : Int)
        ·rw [if_pos c16] at H
         have c16b0 : decide (x46_2 < (l0.length : Int)) = true := decide_eq_true c16
         clear c16
         by_cases c17 : 0 ≤ x46_2
         ·rw [if_pos c17] at H
          have c17b0 : decide (0 ≤ x46_2) = true := decide_eq_true c17
          clear c17
          by_cases c18 : x46_2 < (l0.length : Int)
          ·rw [if_pos c18] at H
           have c18b0 : decide (x46_2 < (l0.length : Int)) = true := decide_eq_true c18
           clear c18
           obtain ⟨⟨t111, t112⟩, A19, H⟩ := bindA H
           dsimp only at H
           by_cases c20 : t112 = 0
           ·rw [if_pos c20] at H
            have c20b0 := beq_iff_eq.mpr c20
            have c20b1 := bne_eq_false_iff_eq.mpr c20
            clear c20
            obtain ⟨⟨t113, t114⟩, A21, H⟩ := bindA H
            dsimp only at H
            by_cases c22 : t114 = 0
            ·rw [if_pos c22] at H
             have c22b0 := beq_iff_eq.mpr c22
             have c22b1 := bne_eq_false_iff_eq.mpr c22
             clear c22
             by_cases c23 : t113 ≥ 0
             ·rw [if_pos c23] at H
              have c23b0 : decide (0 ≤ t113) = true := decide_eq_true c23
              clear c23
              simp only [Option.some.injEq, Prod.mk.injEq] at H
              obtain ⟨rfl, rfl⟩ := H
              have p109 : 0 ≤ (x46_2 : Int) := of_decide_eq_true z26_
              have q109 : x46_2 < (l0.length : Int) := of_decide_eq_true z26_
              obtain ⟨ad109, e109, hx109_0, hx109_1⟩ := at_T60 HR0.out x46_2 p109 q109
              cases e109
              replace hx109_0 := (HB.out.cell (World.block_lt_of_cell? w _ hx109_0)).trans hx109_0
              replace hx109_1 := (HB.out.cell (World.block_lt_of_cell? w _ hx109_1)).trans hx109_1
              replace p109 := eq_true p109
              replace q109 := eq_true q109
              go_wp2_with (first | ((with_reducible refine gate_dst (N := 13) rfl ?_); refine box_event ?hg (N := 13) ?hd (cs := #[.int .i64 0, .string (⟨#[]⟩ : ByteArray)]) (t := 60) ?hr ?_; (case hd => rfl); (case hg => rfl); (case hr => first | (go_simp; done) | (go_simp; rfl)); intro gb110 hg w24 hbox hb; have n0_ := Aside0.mk (below_step z10_ hb); have n1_ := Aside0.mk (hbox); have n2_ := Aside0.mk ((by rw [hg]; exact (below_size z10_) : w.heap.size ≤ gb110)); have n3_ := Aside0.mk ((by rw [hg]; exact (below_size z10_) : w.heap.size ≤ gb110)); clear HB; have HB := n0_; have BK110 := n1_; have GW110 := n2_; have GE110 := n3_; clear n0_ n1_ n2_ n3_; clear hb hbox hg; have hcz25_0 : w24.cell? ⟨gb110, 0, none⟩ = some (.int .i64 0) := (blk_cell BK110.out 0).trans rfl; have hcz25_1 : w24.cell? ⟨gb110, 1, none⟩ = some (.string (⟨#[]⟩ : ByteArray)) := (blk_cell BK110.out 1).trans rfl; have hfz25_0 := blk_frozen BK110.out 0; have hfz25_1 := blk_frozen BK110.out 1) | ((with_reducible refine gate_callee (f := 10) rfl ?_); refine goesL_ (some 55) rfl rfl Tryz.func10 (by kernel_rfl) rfl #[.slice (some ad109) l0.length c0, .agg #[.int .i64 (-1048576), .int .i64 ((rd_T60 l0 x46_2).f0)]] rfl z9_ ?_; (with_reducible refine (dist_Probability.calls _ _ l0 (-1048576) ((rd_T60 l0 x46_2).f0) t111 t112 _ ?side1 ?side2 A19.out (Aside0.mk (Tabs.below HT.out z4_))).mono ?_); (case side1 => exact Kd.C_below HR0.out z6_); (case side2 => exact HC0.out); rintro e w26 ⟨rfl, hb⟩; refine ⟨_, rfl, ?_⟩; have n0_ := Aside0.mk (blk_below (g := gb110) (o := .cells #[.int .i64 ((rd_T60 l0 x46_2).f0), .string ((rd_T60 l0 x46_2).f1)] 60 (0, 0)) z3_ hb); have n1_ := Aside0.mk (below_step z6_ hb); clear BK110; clear HB; have BK110 := n0_; have HB := n1_; clear n0_ n1_; (try clear hb); (try clear hb2); (try clear hk); (try clear hi)) | (refine gz (f := 37) rfl (some 64) rfl Tryz.func37 (ratio_Compare.calls t111 a1 t113 t114 _ A21.out (Aside0.mk (Tabs.below HT.out z4_))) ?_; rintro w27 hb; have n0_ := Aside0.mk (blk_below (g := gb110) (o := .cells #[.int .i64 ((rd_T60 l0 x46_2).f0), .string ((rd_T60 l0 x46_2).f1)] 60 (0, 0)) (by (with_reducible repeat (first | refine blk_drewN ?_ _ | refine blk_drew ?_ | refine blk_alloc ?_ _)); exact BK110.out) hb); have n1_ := Aside0.mk (below_step z6_ hb); clear BK110; clear HB; have BK110 := n0_; have HB := n1_; clear n0_ n1_; (try clear hb); (try clear hb2); (try clear hk); (try clear hi); have hcz28_0 : w27.cell? ⟨gb110, 0, none⟩ = some (.int .i64 ((rd_T60 l0 x46_2).f0)) := (blk_cell BK110.out 0).trans rfl; have hcz28_1 : w27.cell? ⟨gb110, 1, none⟩ = some (.string ((rd_T60 l0 x46_2).f1)) := (blk_cell BK110.out 1).trans rfl; have hfz28_0 := blk_frozen BK110.out 0; have hfz28_1 := blk_frozen BK110.out 1))
              go_ret2
              exact ⟨z24_, by repeat (first | (with_reducible first | exact HB.out | apply below_alloc | apply pw_below_drewN | apply below_drew1 | refine Go.Proofs.YtkdpcgmnkifbbaaGreatDoorW.PrintWords.below_set ?_ GE110.out) | exact HB.out)⟩
             ·rw [if_neg c23] at H
              have c23b0 : decide (0 ≤ t113) = false := decide_eq_false c23
              clear c23
              have H' := Aside0.mk H
              clear H
              have p109 : 0 ≤ (x46_2 : Int) := of_decide_eq_true z26_
              have q109 : x46_2 < (l0.length : Int) := of_decide_eq_true z26_
              obtain ⟨ad109, e109, hx109_0, hx109_1⟩ := at_T60 HR0.out x46_2 p109 q109
              cases e109
              replace hx109_0 := (HB.out.cell (World.block_lt_of_cell? w _ hx109_0)).trans hx109_0
              replace hx109_1 := (HB.out.cell (World.block_lt_of_cell? w _ hx109_1)).trans hx109_1
              replace p109 := eq_true p109
              replace q109 := eq_true q109
              go_wp2_with (first | ((with_reducible refine gate_dst (N := 13) rfl ?_); refine box_event ?hg (N := 13) ?hd (cs := #[.int .i64 0, .string (⟨#[]⟩ : ByteArray)]) (t := 60) ?hr ?_; (case hd => rfl); (case hg => rfl); (case hr => first | (go_simp; done) | (go_simp; rfl)); intro gb110 hg w29 hbox hb; have n0_ := Aside0.mk (below_step z10_ hb); have n1_ := Aside0.mk (hbox); have n2_ := Aside0.mk ((by rw [hg]; exact (below_size z10_) : w.heap.size ≤ gb110)); have n3_ := Aside0.mk ((by rw [hg]; exact (below_size z10_) : w.heap.size ≤ gb110)); clear HB; have HB := n0_; have BK110 := n1_; have GW110 := n2_; have GE110 := n3_; clear n0_ n1_ n2_ n3_; clear hb hbox hg; have hcz30_0 : w29.cell? ⟨gb110, 0, none⟩ = some (.int .i64 0) := (blk_cell BK110.out 0).trans rfl; have hcz30_1 : w29.cell? ⟨gb110, 1, none⟩ = some (.string (⟨#[]⟩ : ByteArray)) := (blk_cell BK110.out 1).trans rfl; have hfz30_0 := blk_frozen BK110.out 0; have hfz30_1 := blk_frozen BK110.out 1) | ((with_reducible refine gate_callee (f := 10) rfl ?_); refine goesL_ (some 55) rfl rfl Tryz.func10 (by kernel_rfl) rfl #[.slice (some ad109) l0.length c0, .agg #[.int .i64 (-1048576), .int .i64 ((rd_T60 l0 x46_2).f0)]] rfl z9_ ?_; (with_reducible refine (dist_Probability.calls _ _ l0 (-1048576) ((rd_T60 l0 x46_2).f0) t111 t112 _ ?side1 ?side2 A19.out (Aside0.mk (Tabs.below HT.out z4_))).mono ?_); (case side1 => exact Kd.C_below HR0.out z6_); (case side2 => exact HC0.out); rintro e w31 ⟨rfl, hb⟩; refine ⟨_, rfl, ?_⟩; have n0_ := Aside0.mk (blk_below (g := gb110) (o := .cells #[.int .i64 ((rd_T60 l0 x46_2).f0), .string ((rd_T60 l0 x46_2).f1)] 60 (0, 0)) z3_ hb); have n1_ := Aside0.mk (below_step z6_ hb); clear BK110; clear HB; have BK110 := n0_; have HB := n1_; clear n0_ n1_; (try clear hb); (try clear hb2); (try clear hk); (try clear hi)) | (refine gz (f := 37) rfl (some 64) rfl Tryz.func37 (ratio_Compare.calls t111 a1 t113 t114 _ A21.out (Aside0.mk (Tabs.below HT.out z4_))) ?_; rintro w32 hb; have n0_ := Aside0.mk (blk_below (g := gb110) (o := .cells #[.int .i64 ((rd_T60 l0 x46_2).f0), .string ((rd_T60 l0 x46_2).f1)] 60 (0, 0)) (by (with_reducible repeat (first | refine blk_drewN ?_ _ | refine blk_drew ?_ | refine blk_alloc ?_ _)); exact BK110.out) hb); have n1_ := Aside0.mk (below_step z6_ hb); clear BK110; clear HB; have BK110 := n0_; have HB := n1_; clear n0_ n1_; (try clear hb); (try clear hb2); (try clear hk); (try clear hi)))
              go_roundg k2
              case measure => have := HJ8.out; have := HK2.out; omega
              case rel => exact ⟨(wrap64 (x46_2 + 1)), z25_, H', ⟨by have := HJ8.out; have := HK2.out; omega⟩, ⟨by repeat (first | (with_reducible first | exact HB.out | apply below_alloc | apply pw_below_drewN | apply below_drew1 | refine Go.Proofs.YtkdpcgmnkifbbaaGreatDoorW.PrintWords.below_set ?_ GE110.out) | exact HB.out)⟩⟩
            ·rw [if_neg c22] at H
             have c22b0 := beq_eq_false_iff_ne.mpr c22
             have c22b1 := bne_iff_ne.mpr c22
             simp only [Option.some.injEq, Prod.mk.injEq] at H
             obtain ⟨rfl, rfl⟩ := H
             have p109 : 0 ≤ (x46_2 : Int) := of_decide_eq_true z26_
             have q109 : x46_2 < (l0.length : Int) := of_decide_eq_true z26_
             obtain ⟨ad109, e109, hx109_0, hx109_1⟩ := at_T60 HR0.out x46_2 p109 q109
             cases e109
             replace hx109_0 := (HB.out.cell (World.block_lt_of_cell? w _ hx109_0)).trans hx109_0
             replace hx109_1 := (HB.out.cell (World.block_lt_of_cell? w _ hx109_1)).trans hx109_1
             replace p109 := eq_true p109
             replace q109 := eq_true q109
             go_wp2_with (first | ((with_reducible refine gate_dst (N := 13) rfl ?_); refine box_event ?hg (N := 13) ?hd (cs := #[.int .i64 0, .string (⟨#[]⟩ : ByteArray)]) (t := 60) ?hr ?_; (case hd => rfl); (case hg => rfl); (case hr => first | (go_simp; done) | (go_simp; rfl)); intro gb110 hg w33 hbox hb; have n0_ := Aside0.mk (below_step z10_ hb); have n1_ := Aside0.mk (hbox); have n2_ := Aside0.mk ((by rw [hg]; exact (below_size z10_) : w.heap.size ≤ gb110)); have n3_ := Aside0.mk ((by rw [hg]; exact (below_size z10_) : w.heap.size ≤ gb110)); clear HB; have HB := n0_; have BK110 := n1_; have GW110 := n2_; have GE110 := n3_; clear n0_ n1_ n2_ n3_; clear hb hbox hg; have hcz34_0 : w33.cell? ⟨gb110, 0, none⟩ = some (.int .i64 0) := (blk_cell BK110.out 0).trans rfl; have hcz34_1 : w33.cell? ⟨gb110, 1, none⟩ = some (.string (⟨#[]⟩ : ByteArray)) := (blk_cell BK110.out 1).trans rfl; have hfz34_0 := blk_frozen BK110.out 0; have hfz34_1 := blk_frozen BK110.out 1) | ((with_reducible refine gate_callee (f := 10) rfl ?_); refine goesL_ (some 55) rfl rfl Tryz.func10 (by kernel_rfl) rfl #[.slice (some ad109) l0.length c0, .agg #[.int .i64 (-1048576), .int .i64 ((rd_T60 l0 x46_2).f0)]] rfl z9_ ?_; (with_reducible refine (dist_Probability.calls _ _ l0 (-1048576) ((rd_T60 l0 x46_2).f0) t111 t112 _ ?side1 ?side2 A19.out (Aside0.mk (Tabs.below HT.out z4_))).mono ?_); (case side1 => exact Kd.C_below HR0.out z6_); (case side2 => exact HC0.out); rintro e w35 ⟨rfl, hb⟩; refine ⟨_, rfl, ?_⟩; have n0_ := Aside0.mk (blk_below (g := gb110) (o := .cells #[.int .i64 ((rd_T60 l0 x46_2).f0), .string ((rd_T60 l0 x46_2).f1)] 60 (0, 0)) z3_ hb); have n1_ := Aside0.mk (below_step z6_ hb); clear BK110; clear HB; have BK110 := n0_; have HB := n1_; clear n0_ n1_; (try clear hb); (try clear hb2); (try clear hk); (try clear hi)) | (refine gz (f := 37) rfl (some 64) rfl Tryz.func37 (ratio_Compare.calls t111 a1 t113 t114 _ A21.out (Aside0.mk (Tabs.below HT.out z4_))) ?_; rintro w36 hb; have n0_ := Aside0.mk (blk_below (g := gb110) (o := .cells #[.int .i64 ((rd_T60 l0 x46_2).f0), .string ((rd_T60 l0 x46_2).f1)] 60 (0, 0)) (by (with_reducible repeat (first | refine blk_drewN ?_ _ | refine blk_drew ?_ | refine blk_alloc ?_ _)); exact BK110.out) hb); have n1_ := Aside0.mk (below_step z6_ hb); clear BK110; clear HB; have BK110 := n0_; have HB := n1_; clear n0_ n1_; (try clear hb); (try clear hb2); (try clear hk); (try clear hi); have hcz37_0 : w36.cell? ⟨gb110, 0, none⟩ = some (.int .i64 ((rd_T60 l0 x46_2).f0)) := (blk_cell BK110.out 0).trans rfl; have hcz37_1 : w36.cell? ⟨gb110, 1, none⟩ = some (.string ((rd_T60 l0 x46_2).f1)) := (blk_cell BK110.out 1).trans rfl; have hfz37_0 := blk_frozen BK110.out 0; have hfz37_1 := blk_frozen BK110.out 1))
             go_ret2
             exact ⟨z24_, by repeat (first | (with_reducible first | exact HB.out | apply below_alloc | apply pw_below_drewN | apply below_drew1 | refine Go.Proofs.YtkdpcgmnkifbbaaGreatDoorW.PrintWords.below_set ?_ GE110.out) | exact HB.out)⟩
           ·rw [if_neg c20] at H
            have c20b0 := beq_eq_false_iff_ne.mpr c20
            have c20b1 := bne_iff_ne.mpr c20
            simp only [Option.some.injEq, Prod.mk.injEq] at H
            obtain ⟨rfl, rfl⟩ := H
            have p109 : 0 ≤ (x46_2 : Int) := of_decide_eq_true z26_
            have q109 : x46_2 < (l0.length : Int) := of_decide_eq_true z26_
            obtain ⟨ad109, e109, hx109_0, hx109_1⟩ := at_T60 HR0.out x46_2 p109 q109
            cases e109
            replace hx109_0 := (HB.out.cell (World.block_lt_of_cell? w _ hx109_0)).trans hx109_0
            replace hx109_1 := (HB.out.cell (World.block_lt_of_cell? w _ hx109_1)).trans hx109_1
            replace p109 := eq_true p109
            replace q109 := eq_true q109
            go_wp2_with (first | ((with_reducible refine gate_dst (N := 13) rfl ?_); refine box_event ?hg (N := 13) ?hd (cs := #[.int .i64 0, .string (⟨#[]⟩ : ByteArray)]) (t := 60) ?hr ?_; (case hd => rfl); (case hg => rfl); (case hr => first | (go_simp; done) | (go_simp; rfl)); intro gb110 hg w38 hbox hb; have n0_ := Aside0.mk (below_step z10_ hb); have n1_ := Aside0.mk (hbox); have n2_ := Aside0.mk ((by rw [hg]; exact (below_size z10_) : w.heap.size ≤ gb110)); have n3_ := Aside0.mk ((by rw [hg]; exact (below_size z10_) : w.heap.size ≤ gb110)); clear HB; have HB := n0_; have BK110 := n1_; have GW110 := n2_; have GE110 := n3_; clear n0_ n1_ n2_ n3_; clear hb hbox hg; have hcz39_0 : w38.cell? ⟨gb110, 0, none⟩ = some (.int .i64 0) := (blk_cell BK110.out 0).trans rfl; have hcz39_1 : w38.cell? ⟨gb110, 1, none⟩ = some (.string (⟨#[]⟩ : ByteArray)) := (blk_cell BK110.out 1).trans rfl; have hfz39_0 := blk_frozen BK110.out 0; have hfz39_1 := blk_frozen BK110.out 1) | ((with_reducible refine gate_callee (f := 10) rfl ?_); refine goesL_ (some 55) rfl rfl Tryz.func10 (by kernel_rfl) rfl #[.slice (some ad109) l0.length c0, .agg #[.int .i64 (-1048576), .int .i64 ((rd_T60 l0 x46_2).f0)]] rfl z9_ ?_; (with_reducible refine (dist_Probability.calls _ _ l0 (-1048576) ((rd_T60 l0 x46_2).f0) t111 t112 _ ?side1 ?side2 A19.out (Aside0.mk (Tabs.below HT.out z4_))).mono ?_); (case side1 => exact Kd.C_below HR0.out z6_); (case side2 => exact HC0.out); rintro e w40 ⟨rfl, hb⟩; refine ⟨_, rfl, ?_⟩; have n0_ := Aside0.mk (blk_below (g := gb110) (o := .cells #[.int .i64 ((rd_T60 l0 x46_2).f0), .string ((rd_T60 l0 x46_2).f1)] 60 (0, 0)) z3_ hb); have n1_ := Aside0.mk (below_step z6_ hb); clear BK110; clear HB; have BK110 := n0_; have HB := n1_; clear n0_ n1_; (try clear hb); (try clear hb2); (try clear hk); (try clear hi)))
            go_ret2
            exact ⟨z24_, by repeat (first | (with_reducible first | exact HB.out | apply below_alloc | apply pw_below_drewN | apply below_drew1 | refine Go.Proofs.YtkdpcgmnkifbbaaGreatDoorW.PrintWords.below_set ?_ GE110.out) | exact HB.out)⟩
          ·rw [if_neg c18] at H
           exact absurd H (by simp)
         ·rw [if_neg c17] at H
          exact absurd H (by simp)
        ·rw [if_neg c16] at H
         have c16b0 : decide (x46_2 < (l0.length : Int)) = false := decide_eq_false c16
         clear c16
         obtain ⟨ji41, hji41⟩ : ∃ j_ : Int, (wrap64 ((l0.length : Int) - 1)) = j_ := ⟨_, rfl⟩
         replace H : (if 0 ≤ (ji41) then (if (ji41) < (l0.length : Int) then (some ((rd_T60 l0 (ji41)).f0, 0)) else (none)) else (none)) = some (r1, r2) := by first | (rw [hji41] at H; exact H) | (simp only [hji41] at H ⊢; exact H)
         have hji41w : (IntKind.i64.wrap ((l0.length : Int) - 1)) = ji41 := (i64_w _).trans hji41
         by_cases c42 : 0 ≤ (ji41)
         ·rw [if_pos c42] at H
          have c42b0 : decide (0 ≤ (ji41)) = true := decide_eq_true c42
          clear c42
          by_cases c43 : (ji41) < (l0.length : Int)
          ·rw [if_pos c43] at H
           have c43b0 : decide ((ji41) < (l0.length : Int)) = true := decide_eq_true c43
           clear c43
           simp only [Option.some.injEq, Prod.mk.injEq] at H
           obtain ⟨rfl, rfl⟩ := H
           have p108 : 0 ≤ ((ji41) : Int) := of_decide_eq_true z26_
           have q108 : (ji41) < (l0.length : Int) := of_decide_eq_true z26_
           obtain ⟨ad108, e108, hx108_0, hx108_1⟩ := at_T60 HR0.out (ji41) p108 q108
           cases e108
           replace hx108_0 := (HB.out.cell (World.block_lt_of_cell? w _ hx108_0)).trans hx108_0
           replace hx108_1 := (HB.out.cell (World.block_lt_of_cell? w _ hx108_1)).trans hx108_1
           replace p108 := eq_true p108
           replace q108 := eq_true q108
           go_wp2
           go_ret2
           exact ⟨by first | rfl | (simp [errW_none, errW_some] <;> rfl) | (simp only [← hji41]; first | rfl | (simp [errW_none, errW_some] <;> rfl)) | (simp [*, errW_none, errW_some] <;> rfl), z10_⟩
          ·rw [if_neg c43] at H
           exact absurd H (by simp)
         ·rw [if_neg c42] at H
          exact absurd H (by simp)
  ·rw [if_neg c6] at H
   have c6b0 := beq_eq_false_iff_ne.mpr c6
   have c6b1 := bne_iff_ne.mpr c6
   simp only [Option.some.injEq, Prod.mk.injEq] at H
   obtain ⟨rfl, rfl⟩ := H
   go_enter Tryz.func12, Tryz.ntmps12
   go_wp2_with (first | ((with_reducible refine gate_callee (f := 20) rfl ?_); refine goesL_ (some 19) rfl rfl Tryz.func20 (by kernel_rfl) rfl #[.slice A0 l0.length c0] rfl z9_ ?_; (with_reducible refine (dist_Check.calls _ _ l0 t102 _ ?side1 ?side2 A3.out).mono ?_); (case side1 => repeat (first | exact HR0.out | (with_reducible refine Kd.C_alloc ?_ _) | (with_reducible refine Kd.C_drewN ?_ _) | (with_reducible refine Kd.C_drew ?_))); (case side2 => exact HC0.out); rintro e w44 ⟨rfl, hb⟩; refine ⟨_, rfl, ?_⟩; replace HB := Aside0.mk (below_step z10_ hb); clear hb) | (refine gy (f := 36) rfl (some 24) rfl Tryz.func36 (ratio_Check.calls a1 t103 _ A5.out (Aside0.mk (Tabs.below HT.out z4_))) z10_ ?_; clear HB; intro w45 HB))
   go_ret2
   exact ⟨z24_, z10_⟩
 ·rw [if_neg c4] at H
  have c4b0 := beq_eq_false_iff_ne.mpr c4
  have c4b1 := bne_iff_ne.mpr c4
  simp only [Option.some.injEq, Prod.mk.injEq] at H
  obtain ⟨rfl, rfl⟩ := H
  go_enter Tryz.func12, Tryz.ntmps12
  go_wp2_with (first | ((with_reducible refine gate_callee (f := 20) rfl ?_); refine goesL_ (some 19) rfl rfl Tryz.func20 (by kernel_rfl) rfl #[.slice A0 l0.length c0] rfl z9_ ?_; (with_reducible refine (dist_Check.calls _ _ l0 t102 _ ?side1 ?side2 A3.out).mono ?_); (case side1 => repeat (first | exact HR0.out | (with_reducible refine Kd.C_alloc ?_ _) | (with_reducible refine Kd.C_drewN ?_ _) | (with_reducible refine Kd.C_drew ?_))); (case side2 => exact HC0.out); rintro e w46 ⟨rfl, hb⟩; refine ⟨_, rfl, ?_⟩; replace HB := Aside0.mk (below_step z10_ hb); clear hb))
  go_ret2
  exact ⟨z24_, z10_⟩
end Go.Proofs.YtkdpcgmnkifbbaaGreatDoor.D
