/- Joined by a program of this session out of its texts, with only what the last theorem needs: Dx13. No conditions but those stated. -/
import Derived.Test.YtkdpcgmnkifbbaaGreatDoorZC07
import Derived.Test.YtkdpcgmnkifbbaaGreatDoorZC30
import Derived.Test.YtkdpcgmnkifbbaaGreatDoorZC34
import Derived.Test.YtkdpcgmnkifbbaaGreatDoorZC35
import Derived.Test.YtkdpcgmnkifbbaaGreatDoorZC38
import Derived.Test.YtkdpcgmnkifbbaaGreatDoorZC29
set_option linter.unusedVariables false
set_option linter.unusedSimpArgs false
namespace Go.Proofs.YtkdpcgmnkifbbaaGreatDoorW.PrintLast
end Go.Proofs.YtkdpcgmnkifbbaaGreatDoorW.PrintLast
namespace Go.Proofs.YtkdpcgmnkifbbaaGreatDoorW.PrintMore
end Go.Proofs.YtkdpcgmnkifbbaaGreatDoorW.PrintMore
namespace Go.Proofs.YtkdpcgmnkifbbaaGreatDoorW.PrintWords
end Go.Proofs.YtkdpcgmnkifbbaaGreatDoorW.PrintWords
namespace Go.Proofs.YtkdpcgmnkifbbaaGreatDoor.D
open Go.RowKit Go.Proofs.YtkdpcgmnkifbbaaGreatDoorW.PrintWords Go.Proofs.YtkdpcgmnkifbbaaGreatDoorW.PrintLast Go.Proofs.YtkdpcgmnkifbbaaGreatDoorW.PrintMore
attribute [local go_sem] max2_int min2_int max_two min_two max_three min_three max_four min_four
set_option linter.unusedVariables false
set_option linter.unusedSimpArgs false
mutual
def metrolabref26_Reduce.l0 : Nat → List (S60) → ByteArray → Int → Option ((List (S60)) × Int)
 | 0, _, _, _ => none
 | k + 1, x0, x5, x6 => if x6 < (x0.length : Int) then (if 0 ≤ x6 then ((metrolabref01_Shared.f x5 ((rd_T60 x0 x6).f1)).bind fun t403 => (metrolabref26_Reduce.l0 k x0 t403 (wrap64 (x6 + 1)))) else (none)) else (metrolabref26_Reduce.l1 k x0 x5 ([] : List (S60)) 0)
def metrolabref26_Reduce.l1 : Nat → List (S60) → ByteArray → List (S60) → Int → Option ((List (S60)) × Int)
 | 0, _, _, _, _ => none
 | k + 1, x0, x5, x7, x8 => if x8 < (x0.length : Int) then (if 0 ≤ x8 then ((metrolabref01_Parted.f ((rd_T60 x0 x8).f1) x5).bind fun bt405 => (if x7.length < 5864062014805 then (metrolabref26_Reduce.l1 k x0 x5 (x7 ++ [(⟨(rd_T60 x0 x8).f0, bt405.1⟩ : S60)]) (wrap64 (x8 + 1))) else (none))) else (none)) else (some (x7, 0))
end
def metrolabref26_Reduce.f (k : Nat) (l0 : List (S60)) : Option ((List (S60)) × Int) := (metrolabref26_Check.f k l0).bind fun t401 => (if t401 = 0 then (metrolabref26_Reduce.l0 k l0 (⟨#[48]⟩ : ByteArray) 0) else (some (([] : List (S60)), t401)))
set_option maxHeartbeats 8000000 in
set_option maxRecDepth 100000 in
theorem metrolabref26_Reduce.calls (k : Nat) (A0 : Option Addr) (c0 : Nat) (l0 : List (S60)) (r1 : List (S60)) (r2 : Int) (w : World) (hr0 : Kd.C k60 w A0 l0.length l0) (hc0 : l0.length ≤ c0) (h : metrolabref26_Reduce.f k l0 = some (r1, r2)) :
  Calls Tryz.prog 30 #[.slice A0 l0.length c0] w fun e w' => ∃ v0_ : Value, e = .returned (.tuple #[v0_, .int .i64 r2]) ∧ Kd.R k60 60 w' w.heap.size (fun _ => True) v0_ r1 ∧ Below w.heap.size w w' := by
 have hu60 := Tryz.underlying60
 have HR0 := Aside0.mk hr0
 have HC0 := Aside0.mk hc0
 clear hr0 hc0
 have HB := Aside0.mk (Below.refl w.heap.size w)
 have H : ((metrolabref26_Check.f k l0).bind fun t401 => (if t401 = 0 then (metrolabref26_Reduce.l0 k l0 (⟨#[48]⟩ : ByteArray) 0) else (some (([] : List (S60)), t401)))) = some (r1, r2) := h
 clear h
 obtain ⟨t401, A2, H⟩ := bindA H
 by_cases c3 : t401 = 0
 ·rw [if_pos c3] at H
  have c3b0 := beq_iff_eq.mpr c3
  have c3b1 := bne_eq_false_iff_eq.mpr c3
  clear c3
  have H' := Aside0.mk H
  clear H
  go_enter Tryz.func30, Tryz.ntmps30
  go_wp2_with (first | ((with_reducible refine gate_callee (f := 21) rfl ?_); refine goesL_ (some 12) rfl rfl Tryz.func21 (by kernel_rfl) rfl #[.slice A0 l0.length c0] rfl z9_ ?_; (with_reducible refine (metrolabref26_Check.calls k _ _ l0 t401 _ ?side1 ?side2 A2.out).mono ?_); (case side1 => repeat (first | exact HR0.out | (with_reducible refine Kd.C_alloc ?_ _) | (with_reducible refine Kd.C_drewN ?_ _) | (with_reducible refine Kd.C_drew ?_))); (case side2 => exact HC0.out); rintro e w4 ⟨rfl, hb⟩; refine ⟨_, rfl, ?_⟩; replace HB := Aside0.mk (below_step z10_ hb); clear hb))
  go_loopg [5, 6] k (fun kq v5 v6 w' => ∃ (x5_1 : ByteArray) (x6_1 : Int), v5 = .string x5_1 ∧ v6 = .int .i64 x6_1 ∧ Aside0 (metrolabref26_Reduce.l0 kq l0 x5_1 x6_1 = some (r1, r2)) ∧ Aside0 (kq ≤ k) ∧ Aside0 (Below w.heap.size w w'))
  case atStart => exact ⟨((⟨#[48]⟩ : ByteArray)), (0), z25_, z25_, H', ⟨Nat.le_refl _⟩, ⟨by repeat (first | (with_reducible first | exact HB.out | apply below_alloc | apply pw_below_drewN | apply below_drew1) | exact HB.out)⟩⟩
  case round =>
   clear H'
   try clear c2
   try clear p2
   try clear c3
   try clear c3b0
   try clear c3b1
   obtain ⟨x5_1, x6_1, rfl, rfl, HA, HK1, HB⟩ := hrel
   cases gk with
   | zero => exact absurd HA.out (by simp [metrolabref26_Reduce.l0])
   | succ k1 =>
    have H := HA.out
    clear HA
    simp only [metrolabref26_Reduce.l0] at H
    by_cases c5 : x6_1 < (l0.length : Int)
    ·rw [if_pos c5] at H
     have c5b0 : decide (x6_1 < (l0.length : Int)) = true := decide_eq_true c5
     clear c5
     by_cases c6 : 0 ≤ x6_1
     ·rw [if_pos c6] at H
      have c6b0 : decide (0 ≤ x6_1) = true := decide_eq_true c6
      clear c6
      obtain ⟨t403, A7, H⟩ := bindA H
      have H' := Aside0.mk H
      clear H
      have p402 : 0 ≤ (x6_1 : Int) := of_decide_eq_true z26_
      have q402 : x6_1 < (l0.length : Int) := of_decide_eq_true z26_
      obtain ⟨ad402, e402, hx402_0, hx402_1⟩ := at_T60 HR0.out x6_1 p402 q402
      cases e402
      replace hx402_0 := (HB.out.cell (World.block_lt_of_cell? w _ hx402_0)).trans hx402_0
      replace hx402_1 := (HB.out.cell (World.block_lt_of_cell? w _ hx402_1)).trans hx402_1
      replace p402 := eq_true p402
      replace q402 := eq_true q402
      go_wp2_with (first | (refine gy (f := 62) rfl (some 28) rfl Tryz.func62 (metrolabref01_Shared.calls x5_1 ((rd_T60 l0 x6_1).f1) t403 _ A7.out) z10_ ?_; clear HB; intro w8 HB))
      go_roundg k1
      case measure => have := HK1.out; omega
      case rel => exact ⟨(t403), (wrap64 (x6_1 + 1)), z25_, z25_, H', ⟨by have := HK1.out; omega⟩, ⟨by repeat (first | (with_reducible first | exact HB.out | apply below_alloc | apply pw_below_drewN | apply below_drew1) | exact HB.out)⟩⟩
     ·rw [if_neg c6] at H
      exact absurd H (by simp)
    ·rw [if_neg c5] at H
     have c5b0 : decide (x6_1 < (l0.length : Int)) = false := decide_eq_false c5
     clear c5
     have H' := Aside0.mk H
     clear H
     go_wp2
     go_loopg [7, 8] k1 (fun kq v7 v8 w' => ∃ (x7_2 : List (S60)) (x8_2 : Int), v8 = .int .i64 x8_2 ∧ Aside0 (metrolabref26_Reduce.l1 kq l0 x5_1 x7_2 x8_2 = some (r1, r2)) ∧ Aside0 (kq ≤ k1) ∧ Aside0 (Kd.R k60 60 w' w.heap.size (fun _ => True) v7 x7_2) ∧ Aside0 (Below w.heap.size w w'))
     case atStart => exact ⟨(([] : List (S60))), (0), z25_, H', ⟨Nat.le_refl _⟩, ⟨by first | exact Kd.R_nil _ _ _ _ _ | exact Kd.N_nil _ _ _ _ _ | exact Kd.V_nil _ _ _ _ _ | exact Kd.Q_nil _ _ _ _ _ | exact Kd.S_nil _ _ _ _ _⟩, ⟨by repeat (first | (with_reducible first | exact HB.out | apply below_alloc | apply pw_below_drewN | apply below_drew1) | exact HB.out)⟩⟩
     case round =>
      clear H'
      try clear c2
      try clear p2
      try clear c3
      try clear c3b0
      try clear c3b1
      try clear p4
      try clear q4
      try clear hx4
      try clear c5
      try clear c5b0
      try clear c6
      try clear c6b0
      try clear p6
      try clear hx402_0
      try clear hx402_1
      try clear p2
      try clear p402
      try clear q402
      obtain ⟨x7_2, x8_2, rfl, HA, HK2, HO_7, HB⟩ := hrel
      cases gk with
      | zero => exact absurd HA.out (by simp [metrolabref26_Reduce.l1])
      | succ k2 =>
       have H := HA.out
       clear HA
       simp only [metrolabref26_Reduce.l1] at H
       by_cases c9 : x8_2 < (l0.length : Int)
       ·rw [if_pos c9] at H
        have c9b0 : decide (x8_2 < (l0.length : Int)) = true := decide_eq_true c9
        clear c9
        by_cases c10 : 0 ≤ x8_2
        ·rw [if_pos c10] at H
         have c10b0 : decide (0 ≤ x8_2) = true := decide_eq_true c10
         clear c10
         obtain ⟨⟨t405, t406⟩, A11, H⟩ := bindA H
         dsimp only at H
         by_cases c12 : x7_2.length < 5864062014805
         ·rw [if_pos c12] at H
          have LMc12 := Aside0.mk c12
          clear c12
          obtain ⟨y408, hy408⟩ : ∃ y_ : List (S60), y_ = (x7_2 ++ [(⟨(rd_T60 l0 x8_2).f0, t405⟩ : S60)]) := ⟨_, rfl⟩
          replace H : (metrolabref26_Reduce.l1 k2 l0 x5_1 y408 (wrap64 (x8_2 + 1))) = some (r1, r2) := by first | (rw [hy408]; with_reducible exact H) | (have H2_ := (Option.bind_some _ _).symm.trans H; rw [hy408]; with_reducible exact H2_) | (have H2_ := (Option.bind_some _ _).symm.trans H; with_reducible exact H2_) | with_reducible exact H | (rw [hy408]; exact H) | exact H
          have Ny408 := Aside0.mk hy408
          clear hy408
          have H' := Aside0.mk H
          clear H
          have p404 : 0 ≤ (x8_2 : Int) := of_decide_eq_true z26_
          have q404 : x8_2 < (l0.length : Int) := of_decide_eq_true z26_
          obtain ⟨ad404, e404, hx404_0, hx404_1⟩ := at_T60 HR0.out x8_2 p404 q404
          cases e404
          replace hx404_0 := (HB.out.cell (World.block_lt_of_cell? w _ hx404_0)).trans hx404_0
          replace hx404_1 := (HB.out.cell (World.block_lt_of_cell? w _ hx404_1)).trans hx404_1
          replace p404 := eq_true p404
          replace q404 := eq_true q404
          go_wp2_with (first | (refine gz (f := 63) rfl (some 42) rfl Tryz.func63 (metrolabref01_Parted.calls ((rd_T60 l0 x8_2).f1) x5_1 t405 t406 _ A11.out) ?_; rintro w13 hb; have n0_ := Aside0.mk (Kd.R_below z21_ hb); have n1_ := Aside0.mk (below_step z10_ hb); clear HO_7; clear HB; have HO_7 := n0_; have HB := n1_; clear n0_ n1_; (try clear hb); (try clear hb2); (try clear hk); (try clear hi); have p407 : 0 ≤ (x8_2 : Int) := of_decide_eq_true z26_; have q407 : x8_2 < (l0.length : Int) := of_decide_eq_true z26_; obtain ⟨ad407, e407, hx407_0, hx407_1⟩ := at_T60 HR0.out x8_2 p407 q407; obtain rfl : ad404 = ad407 := (by injection e407); replace hx407_0 := (HB.out.cell (World.block_lt_of_cell? w _ hx407_0)).trans hx407_0; replace hx407_1 := (HB.out.cell (World.block_lt_of_cell? w _ hx407_1)).trans hx407_1; replace p407 := eq_true p407; replace q407 := eq_true q407) | ((with_reducible refine gate_builtin (b := .append) (xs := #[.tmp 45, .tmp 53]) rfl ?_); at_builtin; refine Kd.R_append k60 (w0 := w) w.heap.size rfl (.tmp 45) (.tmp 53) 22 60 (.agg #[(.int .i64 0), (.string ⟨#[]⟩)]) 24 rfl Tryz.underlying22 info60 rfl (by decide) (by omega) u7 x7_2 (⟨(rd_T60 l0 x8_2).f0, t405⟩ : S60) [.int .i64 ((rd_T60 l0 x8_2).f0), .string t405] (fun _ => True) (fun _ => False) rfl rfl ?aP (fun _ hk => hk.elim) ?aF ?aO ?aB ?aS ?aL ?_; (case aP => exact k60_mkM _ _ _ (⟨(rd_T60 l0 x8_2).f0, t405⟩ : S60)); (case aB => exact z10_); (case aF => exact (fun _ _ => trivial)); (case aO => exact z21_); (case aS => exact (below_size z10_)); (case aL => have := LMc12.out; omega); intro v409 w14 ho hb hg hat; rw [← Ny408.out] at ho; have n0_ := Aside0.mk (hb); have n1_ := Aside0.mk (ho); clear HB; clear HO_7; have HB := n0_; have HO410 := n1_; clear n0_ n1_; clear ho hb hg hat))
          go_roundg k2
          case measure => have := HK1.out; have := HK2.out; omega
          case rel => exact ⟨(y408), (wrap64 (x8_2 + 1)), z25_, H', ⟨by have := HK1.out; have := HK2.out; omega⟩, ⟨by (with_reducible repeat (first | apply Kd.R_alloc | apply Kd.R_drewN | apply Kd.R_drew)); first | exact HO410.out | (simp only [w64_m256]; exact HO410.out)⟩, ⟨by repeat (first | (with_reducible first | exact HB.out | apply below_alloc | apply pw_below_drewN | apply below_drew1) | exact HB.out)⟩⟩
         ·rw [if_neg c12] at H
          exact absurd H (by simp)
        ·rw [if_neg c10] at H
         exact absurd H (by simp)
       ·rw [if_neg c9] at H
        have c9b0 : decide (x8_2 < (l0.length : Int)) = false := decide_eq_false c9
        clear c9
        simp only [Option.some.injEq, Prod.mk.injEq] at H
        obtain ⟨rfl, rfl⟩ := H
        go_wp2
        go_ret2
        exact ⟨_, z24_, by (with_reducible repeat (first | apply Kd.R_alloc | apply Kd.R_drewN | apply Kd.R_drew)); exact HO_7.out, z10_⟩
 ·rw [if_neg c3] at H
  have c3b0 := beq_eq_false_iff_ne.mpr c3
  have c3b1 := bne_iff_ne.mpr c3
  simp only [Option.some.injEq, Prod.mk.injEq] at H
  obtain ⟨rfl, rfl⟩ := H
  go_enter Tryz.func30, Tryz.ntmps30
  go_wp2_with (first | ((with_reducible refine gate_callee (f := 21) rfl ?_); refine goesL_ (some 12) rfl rfl Tryz.func21 (by kernel_rfl) rfl #[.slice A0 l0.length c0] rfl z9_ ?_; (with_reducible refine (metrolabref26_Check.calls k _ _ l0 t401 _ ?side1 ?side2 A2.out).mono ?_); (case side1 => repeat (first | exact HR0.out | (with_reducible refine Kd.C_alloc ?_ _) | (with_reducible refine Kd.C_drewN ?_ _) | (with_reducible refine Kd.C_drew ?_))); (case side2 => exact HC0.out); rintro e w15 ⟨rfl, hb⟩; refine ⟨_, rfl, ?_⟩; replace HB := Aside0.mk (below_step z10_ hb); clear hb))
  go_ret2
  exact ⟨_, z24_, by first | exact Kd.R_nil _ _ _ _ _ | exact Kd.N_nil _ _ _ _ _ | exact Kd.V_nil _ _ _ _ _ | exact Kd.Q_nil _ _ _ _ _ | exact Kd.S_nil _ _ _ _ _, z10_⟩
def metrolablaw26_DistChanges.f (k : Nat) (l0 : List (S60)) (a1 : Int) (a2 : Int) : Option (Bool) := (metrolabref26_Few.f k l0).bind fun t411 => (if t411 = true then ((dist_Scale.f k l0 a1 a2).bind fun bt413 => ((metrolabref26_Scale.f k l0 a1 a2).bind fun bt417 => ((dist_Reduce.f k l0).bind fun bt421 => ((metrolabref26_Reduce.f k l0).bind fun bt425 => ((metrolablaw26_awake.f k).bind fun t429 => (if t429 = true then ((metrolabref26_Same.f k bt413.1 bt417.1).bind fun t430 => (if t430 = true then (if bt413.2 = bt417.2 then ((metrolabref26_Same.f k bt421.1 bt425.1).bind fun t431 => (if t431 = true then (some (bt421.2 == bt425.2)) else (some false))) else (some false)) else (some false))) else (some false))))))) else ((metrolablaw26_awake.f k).bind fun t412 => (some t412)))
set_option maxHeartbeats 8000000 in
set_option maxRecDepth 100000 in
theorem metrolablaw26_DistChanges.calls (k : Nat) (A0 : Option Addr) (c0 : Nat) (l0 : List (S60)) (a1 : Int) (a2 : Int) (r : Bool) (hr_ : r = true) (w : World) (hr0 : Kd.C k60 w A0 l0.length l0) (hc0 : l0.length ≤ c0) (h : metrolablaw26_DistChanges.f k l0 a1 a2 = some r) (HT : Aside0 (Tabs w)) :
  Calls Tryz.prog 6 #[.slice A0 l0.length c0, .int .i64 a1, .int .i64 a2] w fun e w' => e = .returned (.bool r) ∧ Below w.heap.size w w' := by
 subst hr_
 have HR0 := Aside0.mk hr0
 have HC0 := Aside0.mk hc0
 clear hr0 hc0
 have HB := Aside0.mk (Below.refl w.heap.size w)
 have H : ((metrolabref26_Few.f k l0).bind fun t411 => (if t411 = true then ((dist_Scale.f k l0 a1 a2).bind fun bt413 => ((metrolabref26_Scale.f k l0 a1 a2).bind fun bt417 => ((dist_Reduce.f k l0).bind fun bt421 => ((metrolabref26_Reduce.f k l0).bind fun bt425 => ((metrolablaw26_awake.f k).bind fun t429 => (if t429 = true then ((metrolabref26_Same.f k bt413.1 bt417.1).bind fun t430 => (if t430 = true then (if bt413.2 = bt417.2 then ((metrolabref26_Same.f k bt421.1 bt425.1).bind fun t431 => (if t431 = true then (some (bt421.2 == bt425.2)) else (some false))) else (some false)) else (some false))) else (some false))))))) else ((metrolablaw26_awake.f k).bind fun t412 => (some t412)))) = some true := h
 clear h
 obtain ⟨t411, A4, H⟩ := bindA H
 by_cases c5 : t411 = true
 ·subst c5
  rw [if_pos rfl] at H
  obtain ⟨⟨t413, t414⟩, A6, H⟩ := bindA H
  dsimp only at H
  obtain ⟨⟨t417, t418⟩, A7, H⟩ := bindA H
  dsimp only at H
  obtain ⟨⟨t421, t422⟩, A8, H⟩ := bindA H
  dsimp only at H
  obtain ⟨⟨t425, t426⟩, A9, H⟩ := bindA H
  dsimp only at H
  obtain ⟨t429, A10, H⟩ := bindA H
  by_cases c11 : t429 = true
  ·subst c11
   rw [if_pos rfl] at H
   obtain ⟨t430, A12, H⟩ := bindA H
   by_cases c13 : t430 = true
   ·subst c13
    rw [if_pos rfl] at H
    by_cases c14 : t414 = t418
    ·rw [if_pos c14] at H
     have c14b0 := beq_iff_eq.mpr c14
     have c14b1 := bne_eq_false_iff_eq.mpr c14
     clear c14
     obtain ⟨t431, A15, H⟩ := bindA H
     by_cases c16 : t431 = true
     ·subst c16
      rw [if_pos rfl] at H
      have hE_ := Option.some.inj H
      go_enter Tryz.func6, Tryz.ntmps6
      go_wp2_with (first | ((with_reducible refine gate_callee (f := 7) rfl ?_); refine goesL_ (some 16) rfl rfl Tryz.func7 (by kernel_rfl) rfl #[.slice A0 l0.length c0] rfl z9_ ?_; (with_reducible refine (metrolabref26_Few.calls k _ _ l0 true _ ?side1 ?side2 A4.out).mono ?_); (case side1 => repeat (first | exact HR0.out | (with_reducible refine Kd.C_alloc ?_ _) | (with_reducible refine Kd.C_drewN ?_ _) | (with_reducible refine Kd.C_drew ?_))); (case side2 => exact HC0.out); rintro e w' ⟨rfl, ⟨nd, rfl⟩⟩; refine ⟨_, rfl, ?_⟩) | ((with_reducible refine gate_callee (f := 27) rfl ?_); refine goesL_ (some 23) rfl rfl Tryz.func27 (by kernel_rfl) rfl #[.slice A0 l0.length c0, .int .i64 a1, .int .i64 a2] rfl z9_ ?_; (with_reducible refine (dist_Scale.calls k _ _ l0 a1 a2 t413 t414 _ ?side1 ?side2 A6.out).mono ?_); (case side1 => repeat (first | exact HR0.out | (with_reducible refine Kd.C_alloc ?_ _) | (with_reducible refine Kd.C_drewN ?_ _) | (with_reducible refine Kd.C_drew ?_))); (case side2 => exact HC0.out); rintro e w17 ⟨v415, rfl, ho0, hb⟩; refine ⟨_, rfl, ?_⟩; have n0_ := Aside0.mk (Kd.R_lower ho0 (below_size z10_)); have n1_ := Aside0.mk (below_step z10_ hb); clear HB; have HO416 := n0_; have HB := n1_; clear n0_ n1_; (try clear hb); (try clear hb2); (try clear hk); (try clear hi); (try clear ho0)) | ((with_reducible refine gate_callee (f := 28) rfl ?_); refine goesL_ (some 30) rfl rfl Tryz.func28 (by kernel_rfl) rfl #[.slice A0 l0.length c0, .int .i64 a1, .int .i64 a2] rfl z9_ ?_; (with_reducible refine (metrolabref26_Scale.calls k _ _ l0 a1 a2 t417 t418 _ ?side1 ?side2 A7.out).mono ?_); (case side1 => repeat (first | exact (Kd.C_below HR0.out HB.out) | (with_reducible refine Kd.C_alloc ?_ _) | (with_reducible refine Kd.C_drewN ?_ _) | (with_reducible refine Kd.C_drew ?_))); (case side2 => exact HC0.out); rintro e w18 ⟨v419, rfl, ho0, hb⟩; refine ⟨_, rfl, ?_⟩; have n0_ := Aside0.mk (Kd.R_elder' z15_ (Kd.R_base ho0) hb); have n1_ := Aside0.mk (Kd.R_lower (Kd.R_new' ho0 (Kd.R_lt z15_)) (below_size z10_)); have n2_ := Aside0.mk (below_step z10_ hb); clear HO416; clear HB; have HO416 := n0_; have HO420 := n1_; have HB := n2_; clear n0_ n1_ n2_; (try clear hb); (try clear hb2); (try clear hk); (try clear hi); (try clear ho0)) | ((with_reducible refine gate_callee (f := 29) rfl ?_); refine goesL_ (some 35) rfl rfl Tryz.func29 (by kernel_rfl) rfl #[.slice A0 l0.length c0] rfl z9_ ?_; (with_reducible refine (dist_Reduce.calls k _ _ l0 t421 t422 _ ?side1 ?side2 A8.out (Aside0.mk (Tabs.below HT.out z4_))).mono ?_); (case side1 => repeat (first | exact (Kd.C_below HR0.out HB.out) | (with_reducible refine Kd.C_alloc ?_ _) | (with_reducible refine Kd.C_drewN ?_ _) | (with_reducible refine Kd.C_drew ?_))); (case side2 => exact HC0.out); rintro e w19 ⟨v423, rfl, ho0, hb⟩; refine ⟨_, rfl, ?_⟩; have n0_ := Aside0.mk (Kd.R_elder' z15_ (Kd.R_base ho0) hb); have n1_ := Aside0.mk (Kd.R_elder' (by (with_reducible repeat (first | apply Kd.R_alloc | apply Kd.R_drewN | apply Kd.R_drew)); exact HO420.out) (Kd.R_base ho0) hb); have n2_ := Aside0.mk (Kd.R_lower (Kd.R_new' (Kd.R_new' ho0 (Kd.R_lt z15_)) (Kd.R_lt (by (with_reducible repeat (first | apply Kd.R_alloc | apply Kd.R_drewN | apply Kd.R_drew)); exact HO420.out))) (below_size z10_)); have n3_ := Aside0.mk (below_step z10_ hb); clear HO416; clear HO420; clear HB; have HO416 := n0_; have HO420 := n1_; have HO424 := n2_; have HB := n3_; clear n0_ n1_ n2_ n3_; (try clear hb); (try clear hb2); (try clear hk); (try clear hi); (try clear ho0)) | ((with_reducible refine gate_callee (f := 30) rfl ?_); refine goesL_ (some 40) rfl rfl Tryz.func30 (by kernel_rfl) rfl #[.slice A0 l0.length c0] rfl z9_ ?_; (with_reducible refine (metrolabref26_Reduce.calls k _ _ l0 t425 t426 _ ?side1 ?side2 A9.out).mono ?_); (case side1 => repeat (first | exact (Kd.C_below HR0.out HB.out) | (with_reducible refine Kd.C_alloc ?_ _) | (with_reducible refine Kd.C_drewN ?_ _) | (with_reducible refine Kd.C_drew ?_))); (case side2 => exact HC0.out); rintro e w20 ⟨v427, rfl, ho0, hb⟩; refine ⟨_, rfl, ?_⟩; have n0_ := Aside0.mk (Kd.R_elder' z15_ (Kd.R_base ho0) hb); have n1_ := Aside0.mk (Kd.R_elder' (by (with_reducible repeat (first | apply Kd.R_alloc | apply Kd.R_drewN | apply Kd.R_drew)); exact HO420.out) (Kd.R_base ho0) hb); have n2_ := Aside0.mk (Kd.R_elder' (by (with_reducible repeat (first | apply Kd.R_alloc | apply Kd.R_drewN | apply Kd.R_drew)); exact HO424.out) (Kd.R_base ho0) hb); have n3_ := Aside0.mk (Kd.R_lower (Kd.R_new' (Kd.R_new' (Kd.R_new' ho0 (Kd.R_lt z15_)) (Kd.R_lt (by (with_reducible repeat (first | apply Kd.R_alloc | apply Kd.R_drewN | apply Kd.R_drew)); exact HO420.out))) (Kd.R_lt (by (with_reducible repeat (first | apply Kd.R_alloc | apply Kd.R_drewN | apply Kd.R_drew)); exact HO424.out))) (below_size z10_)); have n4_ := Aside0.mk (below_step z10_ hb); clear HO416; clear HO420; clear HO424; clear HB; have HO416 := n0_; have HO420 := n1_; have HO424 := n2_; have HO428 := n3_; have HB := n4_; clear n0_ n1_ n2_ n3_ n4_; (try clear hb); (try clear hb2); (try clear hk); (try clear hi); (try clear ho0)) | (refine gz (f := 9) rfl (some 43) rfl Tryz.func9 (metrolablaw26_awake.calls k true rfl _ A10.out (Aside0.mk (Tabs.below HT.out z4_))) ?_; rintro w21 hb; have n0_ := Aside0.mk (Kd.R_below z15_ hb); have n1_ := Aside0.mk (Kd.R_below (by (with_reducible repeat (first | apply Kd.R_alloc | apply Kd.R_drewN | apply Kd.R_drew)); exact HO420.out) hb); have n2_ := Aside0.mk (Kd.R_below (by (with_reducible repeat (first | apply Kd.R_alloc | apply Kd.R_drewN | apply Kd.R_drew)); exact HO424.out) hb); have n3_ := Aside0.mk (Kd.R_below (by (with_reducible repeat (first | apply Kd.R_alloc | apply Kd.R_drewN | apply Kd.R_drew)); exact HO428.out) hb); have n4_ := Aside0.mk (below_step z10_ hb); clear HO416; clear HO420; clear HO424; clear HO428; clear HB; have HO416 := n0_; have HO420 := n1_; have HO424 := n2_; have HO428 := n3_; have HB := n4_; clear n0_ n1_ n2_ n3_ n4_; (try clear hb); (try clear hb2); (try clear hk); (try clear hi); obtain ⟨Ao22, co22, eo22⟩ := Kd.R_slice HO416.out; subst eo22; obtain ⟨Ao23, co23, eo23⟩ := Kd.R_slice HO420.out; subst eo23) | (go_at_call 26; (with_reducible refine (metrolabref26_Same.calls k _ _ t413 _ _ t417 true _ ?side1 ?side2 ?side3 ?side4 A12.out).mono ?_); (case side1 => repeat (first | exact (Kd.R_reads' HO416.out).2.2 | (with_reducible refine Kd.C_alloc ?_ _) | (with_reducible refine Kd.C_drewN ?_ _) | (with_reducible refine Kd.C_drew ?_))); (case side2 => exact (Kd.R_reads' HO416.out).2.1); (case side3 => repeat (first | exact (Kd.R_reads' HO420.out).2.2 | (with_reducible refine Kd.C_alloc ?_ _) | (with_reducible refine Kd.C_drewN ?_ _) | (with_reducible refine Kd.C_drew ?_))); (case side4 => exact (Kd.R_reads' HO420.out).2.1); rintro e w' ⟨rfl, ⟨nd, rfl⟩⟩; obtain ⟨Ao24, co24, eo24⟩ := Kd.R_slice HO424.out; subst eo24; obtain ⟨Ao25, co25, eo25⟩ := Kd.R_slice HO428.out; subst eo25) | (go_at_call 26; (with_reducible refine (metrolabref26_Same.calls k _ _ t421 _ _ t425 true _ ?side1 ?side2 ?side3 ?side4 A15.out).mono ?_); (case side1 => repeat (first | exact (Kd.R_reads' HO424.out).2.2 | (with_reducible refine Kd.C_alloc ?_ _) | (with_reducible refine Kd.C_drewN ?_ _) | (with_reducible refine Kd.C_drew ?_))); (case side2 => exact (Kd.R_reads' HO424.out).2.1); (case side3 => repeat (first | exact (Kd.R_reads' HO428.out).2.2 | (with_reducible refine Kd.C_alloc ?_ _) | (with_reducible refine Kd.C_drewN ?_ _) | (with_reducible refine Kd.C_drew ?_))); (case side4 => exact (Kd.R_reads' HO428.out).2.1); rintro e w' ⟨rfl, ⟨nd, rfl⟩⟩))
      go_ret
      exact ⟨z24_, z10_⟩
     ·replace c16 := Bool.eq_false_iff.mpr c16
      subst c16
      rw [if_neg (show ¬ (false = true) by decide)] at H
      cases H
    ·rw [if_neg c14] at H
     have c14b0 := beq_eq_false_iff_ne.mpr c14
     have c14b1 := bne_iff_ne.mpr c14
     cases H
   ·replace c13 := Bool.eq_false_iff.mpr c13
    subst c13
    rw [if_neg (show ¬ (false = true) by decide)] at H
    cases H
  ·replace c11 := Bool.eq_false_iff.mpr c11
   subst c11
   rw [if_neg (show ¬ (false = true) by decide)] at H
   cases H
 ·replace c5 := Bool.eq_false_iff.mpr c5
  subst c5
  rw [if_neg (show ¬ (false = true) by decide)] at H
  obtain ⟨t412, A54, H⟩ := bindA H
  obtain rfl : t412 = true := Option.some.inj H
  go_enter Tryz.func6, Tryz.ntmps6
  go_wp2_with (first | ((with_reducible refine gate_callee (f := 7) rfl ?_); refine goesL_ (some 16) rfl rfl Tryz.func7 (by kernel_rfl) rfl #[.slice A0 l0.length c0] rfl z9_ ?_; (with_reducible refine (metrolabref26_Few.calls k _ _ l0 false _ ?side1 ?side2 A4.out).mono ?_); (case side1 => repeat (first | exact HR0.out | (with_reducible refine Kd.C_alloc ?_ _) | (with_reducible refine Kd.C_drewN ?_ _) | (with_reducible refine Kd.C_drew ?_))); (case side2 => exact HC0.out); rintro e w' ⟨rfl, ⟨nd, rfl⟩⟩; refine ⟨_, rfl, ?_⟩) | (refine gy (f := 9) rfl (some 18) rfl Tryz.func9 (metrolablaw26_awake.calls k true rfl _ A54.out (Aside0.mk (Tabs.below HT.out z4_))) z10_ ?_; clear HB; intro w55 HB))
  go_ret
  exact ⟨z24_, z10_⟩
end Go.Proofs.YtkdpcgmnkifbbaaGreatDoor.D
