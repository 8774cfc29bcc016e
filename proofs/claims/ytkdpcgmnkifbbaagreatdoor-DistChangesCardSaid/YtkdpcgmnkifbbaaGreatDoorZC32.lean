/- Joined by a program of this session out of its texts, with only what the last theorem needs: Dx4. No conditions but those stated. -/
import Derived.Test.YtkdpcgmnkifbbaaGreatDoorZC07
import Derived.Test.YtkdpcgmnkifbbaaGreatDoorZC31
import Derived.Test.YtkdpcgmnkifbbaaGreatDoorZC29
set_option linter.unusedVariables false
set_option linter.unusedSimpArgs false
namespace Go.Proofs.YtkdpcgmnkifbbaaGreatDoorW.PrintLast
end Go.Proofs.YtkdpcgmnkifbbaaGreatDoorW.PrintLast
namespace Go.Proofs.YtkdpcgmnkifbbaaGreatDoorW.PrintMore
end Go.Proofs.YtkdpcgmnkifbbaaGreatDoorW.PrintMore
namespace Go.Proofs.YtkdpcgmnkifbbaaGreatDoorW.PrintWords
end Go.Proofs.YtkdpcgmnkifbbaaGreatDoorW.PrintWords
namespace Go.Proofs.YtkdpcgmnkifbbaaGreatDoor.D
open Go.RowKit Go.Proofs.YtkdpcgmnkifbbaaGreatDoorW.PrintWords Go.Proofs.YtkdpcgmnkifbbaaGreatDoorW.PrintLast Go.Proofs.YtkdpcgmnkifbbaaGreatDoorW.PrintMore
attribute [local go_sem] max2_int min2_int max_two min_two max_three min_three max_four min_four
set_option linter.unusedVariables false
set_option linter.unusedSimpArgs false
mutual
def dist_Binomial.j0 : Nat → Int → Int → Int → Bool → Option ((List (S60)) × Int)
 | 0, _, _, _, _ => none
 | k + 1, x0, x1, x2, x38 => if x38 = true then (some (([] : List (S60)), 2)) else ((dist_powers.f k x1 x0).bind fun bt128 => (if bt128.2 = 0 then ((dist_powers.f k (wrap64 (x2 - x1)) x0).bind fun bt132 => (if bt132.2 = 0 then (dist_Binomial.l0 k x0 bt128.1 bt132.1 ([] : List (S60)) (wrap64 (x0 + 1)) 0) else (some (([] : List (S60)), bt132.2)))) else (some (([] : List (S60)), bt128.2))))
def dist_Binomial.l0 : Nat → Int → List ByteArray → List ByteArray → List (S60) → Int → Int → Option ((List (S60)) × Int)
 | 0, _, _, _, _, _, _ => none
 | k + 1, x0, x8, x10, x11, x60, x61 => if x61 < x60 then ((whole_Binomial.f x0 x61).bind fun bt136 => (if bt136.2 = 0 then (if 0 ≤ x61 then (if x61 < (x8.length : Int) then (if 0 ≤ (wrap64 (x0 - x61)) then (if (wrap64 (x0 - x61)) < (x10.length : Int) then ((dist_product.f k (([bt136.1, rdOf ByteArray.empty x8 x61, rdOf ByteArray.empty x10 (wrap64 (x0 - x61))] : List ByteArray))).bind fun bt143 => (if bt143.2 = 0 then (if bt143.1.toList = ([48] : List UInt8) then (dist_Binomial.l0 k x0 x8 x10 x11 x60 (wrap64 (x61 + 1))) else (if x11.length < 5864062014805 then (dist_Binomial.l0 k x0 x8 x10 (x11 ++ [(⟨x61, bt143.1⟩ : S60)]) x60 (wrap64 (x61 + 1))) else (none))) else (some (([] : List (S60)), bt143.2)))) else (none)) else (none)) else (none)) else (none)) else (some (([] : List (S60)), bt136.2)))) else (some (x11, 0))
end
def dist_Binomial.f (k : Nat) (a0 : Int) (a1 : Int) (a2 : Int) : Option ((List (S60)) × Int) := if a0 < 0 then (dist_Binomial.j0 k a0 a1 a2 true) else (if a0 > 256 then (dist_Binomial.j0 k a0 a1 a2 true) else (if a2 < 1 then (dist_Binomial.j0 k a0 a1 a2 true) else (if a2 > 1048576 then (dist_Binomial.j0 k a0 a1 a2 true) else (if a1 < 0 then (dist_Binomial.j0 k a0 a1 a2 true) else (dist_Binomial.j0 k a0 a1 a2 (decide (a1 > a2)))))))
def dist_Binomial.T16 : Bool × List (List Nat × List Nat) := (true, [([], []), ([], []), ([], []), ([1, 2], [1, 2]), ([3], [3]), ([], []), ([], []), ([], []), ([6, 7], [6, 7]), ([5, 8], [5, 8]), ([9], [9]), ([0, 4, 10], [0, 4, 10]), ([11], [11]), ([12], [12]), ([13], [13]), ([13], [13]), ([14, 12, 0, 1, 2, 3, 4, 5, 6, 7, 8, 9, 10, 11, 12, 13, 14], [14]), ([15, 16, 0, 1, 2, 3, 4, 5, 6, 7, 8, 9, 10, 11, 12, 13, 14, 15, 16], [15])])
def dist_Binomial.B16 : List Nat := [0, 0, 0, 6, 14, 0, 0, 0, 192, 480, 992, 2047, 4095, 8191, 16383, 16383, 32767, 131071]
theorem dist_Binomial.tab16 : rtab .any (opsOf Tryz.f24 16) = dist_Binomial.T16 := by kernel_rfl
theorem dist_Binomial.bits16 : waitsOk dist_Binomial.T16.2 dist_Binomial.B16 = true := by kernel_rfl
set_option maxHeartbeats 8000000 in
set_option maxRecDepth 100000 in
theorem dist_Binomial.calls (k : Nat) (a0 : Int) (a1 : Int) (a2 : Int) (r1 : List (S60)) (r2 : Int) (w : World) (h : dist_Binomial.f k a0 a1 a2 = some (r1, r2)) (HT : Aside0 (Tabs w)) :
  Calls Tryz.prog 24 #[.int .i64 a0, .int .i64 a1, .int .i64 a2] w fun e w' => ∃ v0_ : Value, e = .returned (.tuple #[v0_, .int .i64 r2]) ∧ Kd.R k60 60 w' w.heap.size (fun _ => True) v0_ r1 ∧ Below w.heap.size w w' := by
 have hu60 := Tryz.underlying60
 have HB := Aside0.mk (Below.refl w.heap.size w)
 have H : (if a0 < 0 then (dist_Binomial.j0 k a0 a1 a2 true) else (if a0 > 256 then (dist_Binomial.j0 k a0 a1 a2 true) else (if a2 < 1 then (dist_Binomial.j0 k a0 a1 a2 true) else (if a2 > 1048576 then (dist_Binomial.j0 k a0 a1 a2 true) else (if a1 < 0 then (dist_Binomial.j0 k a0 a1 a2 true) else (dist_Binomial.j0 k a0 a1 a2 (decide (a1 > a2)))))))) = some (r1, r2) := h
 clear h
 have HC4 := Aside0.mk H
 clear H
 go_enter Tryz.func24, Tryz.ntmps24
 go_upto_region 1 with (fail)
 go_cut [38] (fun v38 wc => ∃ (kq : Nat) (x38_3 : Bool), v38 = .bool x38_3 ∧ Aside0 (dist_Binomial.j0 kq a0 a1 a2 x38_3 = some (r1, r2)) ∧ Aside0 (kq ≤ k) ∧ Aside0 (Below w.heap.size w wc))
 case first =>
  have H := HC4.out
  clear HC4
  by_cases c5 : a0 < 0
  ·rw [if_pos c5] at H
   have c5b0 : decide (a0 < 0) = true := decide_eq_true c5
   clear c5
   (first | rw [c5b0] | (simp only [i64_w, i32_w]; rw [c5b0]) | skip)
   have H' := Aside0.mk H
   clear H
   go_wp2
   go_meet
   case rel => exact ⟨_, (true), z25_, H', ⟨by first | omega | exact Nat.le_refl _⟩, ⟨by repeat (first | (with_reducible first | exact HB.out | apply below_alloc | apply pw_below_drewN | apply below_drew1) | exact HB.out)⟩⟩
  ·rw [if_neg c5] at H
   have c5b0 : decide (a0 < 0) = false := decide_eq_false c5
   clear c5
   (first | rw [c5b0] | (simp only [i64_w, i32_w]; rw [c5b0]) | skip)
   by_cases c6 : a0 > 256
   ·rw [if_pos c6] at H
    have c6b0 : decide (256 < a0) = true := decide_eq_true c6
    clear c6
    have H' := Aside0.mk H
    clear H
    go_wp2
    go_meet
    case rel => exact ⟨_, (true), z25_, H', ⟨by first | omega | exact Nat.le_refl _⟩, ⟨by repeat (first | (with_reducible first | exact HB.out | apply below_alloc | apply pw_below_drewN | apply below_drew1) | exact HB.out)⟩⟩
   ·rw [if_neg c6] at H
    have c6b0 : decide (256 < a0) = false := decide_eq_false c6
    clear c6
    by_cases c7 : a2 < 1
    ·rw [if_pos c7] at H
     have c7b0 : decide (a2 < 1) = true := decide_eq_true c7
     clear c7
     have H' := Aside0.mk H
     clear H
     go_wp2
     go_meet
     case rel => exact ⟨_, (true), z25_, H', ⟨by first | omega | exact Nat.le_refl _⟩, ⟨by repeat (first | (with_reducible first | exact HB.out | apply below_alloc | apply pw_below_drewN | apply below_drew1) | exact HB.out)⟩⟩
    ·rw [if_neg c7] at H
     have c7b0 : decide (a2 < 1) = false := decide_eq_false c7
     clear c7
     by_cases c8 : a2 > 1048576
     ·rw [if_pos c8] at H
      have c8b0 : decide (1048576 < a2) = true := decide_eq_true c8
      clear c8
      have H' := Aside0.mk H
      clear H
      go_wp2
      go_meet
      case rel => exact ⟨_, (true), z25_, H', ⟨by first | omega | exact Nat.le_refl _⟩, ⟨by repeat (first | (with_reducible first | exact HB.out | apply below_alloc | apply pw_below_drewN | apply below_drew1) | exact HB.out)⟩⟩
     ·rw [if_neg c8] at H
      have c8b0 : decide (1048576 < a2) = false := decide_eq_false c8
      clear c8
      by_cases c9 : a1 < 0
      ·rw [if_pos c9] at H
       have c9b0 : decide (a1 < 0) = true := decide_eq_true c9
       clear c9
       have H' := Aside0.mk H
       clear H
       go_wp2
       go_meet
       case rel => exact ⟨_, (true), z25_, H', ⟨by first | omega | exact Nat.le_refl _⟩, ⟨by repeat (first | (with_reducible first | exact HB.out | apply below_alloc | apply pw_below_drewN | apply below_drew1) | exact HB.out)⟩⟩
      ·rw [if_neg c9] at H
       have c9b0 : decide (a1 < 0) = false := decide_eq_false c9
       clear c9
       have H' := Aside0.mk H
       clear H
       go_wp2
       go_meet
       case rel => exact ⟨_, (decide (a1 > a2)), z25_, H', ⟨by first | omega | exact Nat.le_refl _⟩, ⟨by repeat (first | (with_reducible first | exact HB.out | apply below_alloc | apply pw_below_drewN | apply below_drew1) | exact HB.out)⟩⟩
 case rest =>
  clear HC4
  try clear c2
  try clear p2
  try clear c5
  try clear c5b0
  try clear c6
  try clear c6b0
  try clear c7
  try clear c7b0
  try clear c8
  try clear c8b0
  try clear c9
  try clear c9b0
  obtain ⟨kq, x38_3, rfl, HA, HJ3, HB⟩ := hcut
  cases kq with
  | zero => exact absurd HA.out (by simp [dist_Binomial.j0])
  | succ kj3 =>
   have H := HA.out
   clear HA
   simp only [dist_Binomial.j0] at H
   by_cases c10 : x38_3 = true
   ·subst c10
    rw [if_pos rfl] at H
    simp only [Option.some.injEq, Prod.mk.injEq] at H
    obtain ⟨rfl, rfl⟩ := H
    go_wp2
    go_ret2
    exact ⟨_, z24_, by first | exact Kd.R_nil _ _ _ _ _ | exact Kd.N_nil _ _ _ _ _ | exact Kd.V_nil _ _ _ _ _ | exact Kd.Q_nil _ _ _ _ _ | exact Kd.S_nil _ _ _ _ _, z10_⟩
   ·replace c10 := Bool.eq_false_iff.mpr c10
    subst c10
    rw [if_neg (show ¬ (false = true) by decide)] at H
    obtain ⟨⟨t128, t129⟩, A11, H⟩ := bindA H
    dsimp only at H
    by_cases c12 : t129 = 0
    ·rw [if_pos c12] at H
     have c12b0 := beq_iff_eq.mpr c12
     have c12b1 := bne_eq_false_iff_eq.mpr c12
     clear c12
     obtain ⟨⟨t132, t133⟩, A13, H⟩ := bindA H
     dsimp only at H
     by_cases c14 : t133 = 0
     ·rw [if_pos c14] at H
      have c14b0 := beq_iff_eq.mpr c14
      have c14b1 := bne_eq_false_iff_eq.mpr c14
      clear c14
      have H' := Aside0.mk H
      clear H
      go_wp2_with (first | ((with_reducible refine gate_callee (f := 54) rfl ?_); refine goesL_ (some 42) rfl rfl Tryz.func54 (by kernel_rfl) rfl #[.int .i64 a1, .int .i64 a0] rfl z9_ ?_; (with_reducible refine (dist_powers.calls kj3 a1 a0 t128 t129 _ A11.out (Aside0.mk (Tabs.below HT.out z4_))).mono ?_); rintro e w15 ⟨v130, rfl, ho0, hb⟩; refine ⟨_, rfl, ?_⟩; have n0_ := Aside0.mk (Kd.R_lower ho0 (below_size z10_)); have n1_ := Aside0.mk (below_step z10_ hb); clear HB; have HO131 := n0_; have HB := n1_; clear n0_ n1_; (try clear hb); (try clear hb2); (try clear hk); (try clear hi); (try clear ho0)) | ((with_reducible refine gate_callee (f := 54) rfl ?_); refine goesL_ (some 53) rfl rfl Tryz.func54 (by kernel_rfl) rfl #[.int .i64 (wrap64 (a2 - a1)), .int .i64 a0] rfl z9_ ?_; (with_reducible refine (dist_powers.calls kj3 (wrap64 (a2 - a1)) a0 t132 t133 _ A13.out (Aside0.mk (Tabs.below HT.out z4_))).mono ?_); rintro e w16 ⟨v134, rfl, ho0, hb⟩; refine ⟨_, rfl, ?_⟩; have n0_ := Aside0.mk (Kd.R_elder' (by (with_reducible repeat (first | apply Kd.R_alloc | apply Kd.R_drewN | apply Kd.R_drew)); exact HO131.out) (Kd.R_base ho0) hb); have n1_ := Aside0.mk (Kd.R_lower (Kd.R_new' ho0 (Kd.R_lt (by (with_reducible repeat (first | apply Kd.R_alloc | apply Kd.R_drewN | apply Kd.R_drew)); exact HO131.out))) (below_size z10_)); have n2_ := Aside0.mk (below_step z10_ hb); clear HO131; clear HB; have HO131 := n0_; have HO135 := n1_; have HB := n2_; clear n0_ n1_ n2_; (try clear hb); (try clear hb2); (try clear hk); (try clear hi); (try clear ho0)))
      go_loopg [11, 61] kj3 (fun kq v11 v61 w' => ∃ (x11_2 : List (S60)) (x61_2 : Int), v61 = .int .i64 x61_2 ∧ Aside0 (dist_Binomial.l0 kq a0 t128 t132 x11_2 (wrap64 (a0 + 1)) x61_2 = some (r1, r2)) ∧ Aside0 (kq ≤ kj3) ∧ Aside0 (Kd.R Kd.string 39 w' w.heap.size (fun k_ => some k_ ≠ (v134 : Value).ownBlock) v130 t128) ∧ Aside0 (Kd.R Kd.string 39 w' w.heap.size (fun k_ => some k_ ≠ (v130 : Value).ownBlock) v134 t132) ∧ Aside0 (Kd.R k60 60 w' w.heap.size (fun _ => True) v11 x11_2) ∧ Aside0 (Below w.heap.size w w'))
      case atStart => exact ⟨(([] : List (S60))), (0), z25_, H', ⟨Nat.le_refl _⟩, ⟨by (with_reducible repeat (first | apply Kd.R_alloc | apply Kd.R_drewN | apply Kd.R_drew)); exact Kd.R_mono HO131.out (fun _ hk => hk.2)⟩, ⟨by (with_reducible repeat (first | apply Kd.R_alloc | apply Kd.R_drewN | apply Kd.R_drew)); exact Kd.R_mono HO135.out (fun _ hk => hk.2)⟩, ⟨by first | exact Kd.R_nil _ _ _ _ _ | exact Kd.N_nil _ _ _ _ _ | exact Kd.V_nil _ _ _ _ _ | exact Kd.Q_nil _ _ _ _ _ | exact Kd.S_nil _ _ _ _ _⟩, ⟨by repeat (first | (with_reducible first | exact HB.out | apply below_alloc | apply pw_below_drewN | apply below_drew1) | exact HB.out)⟩⟩
      case round =>
       clear H'
       try clear c1
       try clear c2
       try clear p2
       try clear c5
       try clear c5b0
       try clear c6
       try clear c6b0
       try clear p6
       try clear c7
       try clear c7b0
       try clear c8
       try clear c8b0
       try clear c9
       try clear c9b0
       try clear c10
       try clear c12
       try clear c12b0
       try clear c12b1
       try clear c14
       try clear c14b0
       try clear c14b1
       try clear p2
       obtain ⟨x11_2, x61_2, rfl, HA, HK2, HO_8, HO_10, HO_11, HB⟩ := hrel
       cases gk with
       | zero => exact absurd HA.out (by simp [dist_Binomial.l0])
       | succ k2 =>
        have H := HA.out
        clear HA
        simp only [dist_Binomial.l0] at H
        by_cases c17 : x61_2 < (wrap64 (a0 + 1))
        ·rw [if_pos c17] at H
         have c17b0 : decide (x61_2 < (wrap64 (a0 + 1))) = true := decide_eq_true c17
         clear c17
         obtain ⟨⟨t136, t137⟩, A18, H⟩ := bindA H
         dsimp only at H
         by_cases c19 : t137 = 0
         ·rw [if_pos c19] at H
          have c19b0 := beq_iff_eq.mpr c19
          have c19b1 := bne_eq_false_iff_eq.mpr c19
          clear c19
          by_cases c20 : 0 ≤ x61_2
          ·rw [if_pos c20] at H
           have c20b0 : decide (0 ≤ x61_2) = true := decide_eq_true c20
           clear c20
           by_cases c21 : x61_2 < (t128.length : Int)
           ·rw [if_pos c21] at H
            have c21b0 : decide (x61_2 < (t128.length : Int)) = true := decide_eq_true c21
            clear c21
            obtain ⟨ji22, hji22⟩ : ∃ j_ : Int, (wrap64 (a0 - x61_2)) = j_ := ⟨_, rfl⟩
            replace H : (if 0 ≤ (ji22) then (if (ji22) < (t132.length : Int) then ((dist_product.f k2 (([t136, rdOf ByteArray.empty t128 x61_2, rdOf ByteArray.empty t132 (ji22)] : List ByteArray))).bind fun bt143 => (if bt143.2 = 0 then (if bt143.1.toList = ([48] : List UInt8) then (dist_Binomial.l0 k2 a0 t128 t132 x11_2 (wrap64 (a0 + 1)) (wrap64 (x61_2 + 1))) else (if x11_2.length < 5864062014805 then (dist_Binomial.l0 k2 a0 t128 t132 (x11_2 ++ [(⟨x61_2, bt143.1⟩ : S60)]) (wrap64 (a0 + 1)) (wrap64 (x61_2 + 1))) else (none))) else (some (([] : List (S60)), bt143.2)))) else (none)) else (none)) = some (r1, r2) := by first | (rw [hji22] at H; exact H) | (simp only [hji22] at H ⊢; exact H)
            (try rw [hji22] at A18)
            have hji22w : (IntKind.i64.wrap (a0 - x61_2)) = ji22 := (i64_w _).trans hji22
            by_cases c23 : 0 ≤ (ji22)
            ·rw [if_pos c23] at H
             have c23b0 : decide (0 ≤ (ji22)) = true := decide_eq_true c23
             clear c23
             by_cases c24 : (ji22) < (t132.length : Int)
             ·rw [if_pos c24] at H
              have c24b0 : decide ((ji22) < (t132.length : Int)) = true := decide_eq_true c24
              clear c24
              obtain ⟨y140, hy140⟩ : ∃ y_ : List ByteArray, y_ = (([t136, rdOf ByteArray.empty t128 x61_2, rdOf ByteArray.empty t132 (ji22)] : List ByteArray)) := ⟨_, rfl⟩
              replace H : ((dist_product.f k2 y140).bind fun bt143 => (if bt143.2 = 0 then (if bt143.1.toList = ([48] : List UInt8) then (dist_Binomial.l0 k2 a0 t128 t132 x11_2 (wrap64 (a0 + 1)) (wrap64 (x61_2 + 1))) else (if x11_2.length < 5864062014805 then (dist_Binomial.l0 k2 a0 t128 t132 (x11_2 ++ [(⟨x61_2, bt143.1⟩ : S60)]) (wrap64 (a0 + 1)) (wrap64 (x61_2 + 1))) else (none))) else (some (([] : List (S60)), bt143.2)))) = some (r1, r2) := by first | (rw [hy140]; with_reducible exact H) | (have H2_ := (Option.bind_some _ _).symm.trans H; rw [hy140]; with_reducible exact H2_) | (have H2_ := (Option.bind_some _ _).symm.trans H; with_reducible exact H2_) | with_reducible exact H | (rw [hy140]; exact H) | exact H
              have Ny140 := Aside0.mk hy140
              clear hy140
              obtain ⟨⟨t143, t144⟩, A25, H⟩ := bindA H
              dsimp only at H
              by_cases c26 : t144 = 0
              ·rw [if_pos c26] at H
               have c26b0 := beq_iff_eq.mpr c26
               have c26b1 := bne_eq_false_iff_eq.mpr c26
               clear c26
               by_cases c27 : t143.toList = ([48] : List UInt8)
               ·rw [if_pos c27] at H
                have c27b0 := beq_iff_eq.mpr c27
                have c27b1 := bne_eq_false_iff_eq.mpr c27
                clear c27
                have H' := Aside0.mk H
                clear H
                try go_wp2_with (first | (refine gz (f := 55) rfl (some 67) rfl Tryz.func55 (whole_Binomial.calls a0 x61_2 t136 t137 _ A18.out (Aside0.mk (Tabs.below HT.out z4_))) ?_; rintro w28 hb; have n0_ := Aside0.mk (Kd.R_below z22_ hb); have n1_ := Aside0.mk (Kd.R_below z16_ hb); have n2_ := Aside0.mk (Kd.R_below z17_ hb); have n3_ := Aside0.mk (below_step z10_ hb); clear HO_8; clear HO_10; clear HO_11; clear HB; have HO_8 := n0_; have HO_10 := n1_; have HO_11 := n2_; have HB := n3_; clear n0_ n1_ n2_ n3_; (try clear hb); (try clear hb2); (try clear hk); (try clear hi)))
                have n0_ := Aside0.mk (Kd.R_drew HO_8.out)
                have n1_ := Aside0.mk (Kd.R_drew HO_10.out)
                have n2_ := Aside0.mk (Kd.R_drew HO_11.out)
                have n3_ := Aside0.mk (below_drew1 HB.out)
                clear HO_8
                clear HO_10
                clear HO_11
                clear HB
                have HO_8 := n0_
                have HO_10 := n1_
                have HO_11 := n2_
                have HB := n3_
                clear n0_ n1_ n2_ n3_
                obtain ⟨Ao30, co30, eo30⟩ := Kd.R_slice HO_8.out
                (first | subst eo30 | (injection eo30 with f1_ f2_ f3_; have f4_ := f1_.symm; have f5_ := f3_.symm; clear f1_ f2_ f3_; subst f4_; subst f5_))
                have p138 : 0 ≤ (x61_2 : Int) := of_decide_eq_true z26_
                have q138 : x61_2 < (t128.length : Int) := of_decide_eq_true z26_
                obtain ⟨ad138, e138, hx138_0⟩ := Kd.at_string (Kd.R_reads' HO_8.out).2.2 x61_2 p138 q138
                cases e138
                replace p138 := eq_true p138
                replace q138 := eq_true q138
                obtain ⟨Ao31, co31, eo31⟩ := Kd.R_slice HO_10.out
                (first | subst eo31 | (injection eo31 with f1_ f2_ f3_; have f4_ := f1_.symm; have f5_ := f3_.symm; clear f1_ f2_ f3_; subst f4_; subst f5_))
                have p139 : 0 ≤ ((ji22) : Int) := of_decide_eq_true z26_
                have q139 : (ji22) < (t132.length : Int) := of_decide_eq_true z26_
                obtain ⟨ad139, e139, hx139_0⟩ := Kd.at_string (Kd.R_reads' HO_10.out).2.2 (ji22) p139 q139
                cases e139
                replace p139 := eq_true p139
                replace q139 := eq_true q139
                refine start_ (n := 18) (S := fun w' => w'.cell? (ad138.add (x61_2).toNat) = some (.string (rdOf ByteArray.empty t128 x61_2)) ∧ w'.cell? (ad139.add ((ji22)).toNat) = some (.string (rdOf ByteArray.empty t132 (ji22)))) (ds := []) #[false, false, false, false, false, false, false, false, false, false, false, false, false, false, false, false, false, false] (by kernel_rfl) rfl rfl ⟨hx138_0, hx139_0⟩ (fun hHeld => ?_); refine with_tabW dist_Binomial.tab16 dist_Binomial.bits16 (fun HT_ HW_ => ?_)
                generalize w28.drew = w29 at HO_8 HO_10 HO_11 HB hx138_0 hx139_0 hHeld ⊢
                refine pu_ (i := 0) (N := some 74) #[true, false, false, false, false, false, false, false, false, false, false, false, false, false, false, false, false, false] HT_.out ?_
                refine pu_ (i := 1) (N := some 75) #[true, true, false, false, false, false, false, false, false, false, false, false, false, false, false, false, false, false] HT_.out ?_
                refine pu_ (i := 2) (N := some 76) #[true, true, true, false, false, false, false, false, false, false, false, false, false, false, false, false, false, false] HT_.out ?_
                refine pu_ (i := 3) (N := some 77) #[true, true, true, true, false, false, false, false, false, false, false, false, false, false, false, false, false, false] HT_.out ?_
                refine pu_ (i := 5) (N := some 79) #[true, true, true, true, false, true, false, false, false, false, false, false, false, false, false, false, false, false] HT_.out ?_
                refine pu_ (i := 6) (N := some 80) #[true, true, true, true, false, true, true, false, false, false, false, false, false, false, false, false, false, false] HT_.out ?_
                refine pu_ (i := 7) (N := some 81) #[true, true, true, true, false, true, true, true, false, false, false, false, false, false, false, false, false, false] HT_.out ?_
                refine pu_ (i := 8) (N := some 82) #[true, true, true, true, false, true, true, true, true, false, false, false, false, false, false, false, false, false] HT_.out ?_
                refine pu_ (i := 9) (N := some 83) #[true, true, true, true, false, true, true, true, true, true, false, false, false, false, false, false, false, false] HT_.out ?_
                refine take_ (i := 4) (N := some 78) (v := ?_) (a' := ?_) #[true, true, true, true, true, true, true, true, true, true, false, false, false, false, false, false, false, false] rfl rfl (take_ofW HT_.out HW_.out (by kernel_rfl)) (fun _ _ _ h => h) (Or.inl ⟨by rfl, ?_⟩) hHeld ?_ ?_
                rotate_left
                ·rintro w' ⟨s0, s1⟩
                 go_simp
                 with_reducible rfl
                rotate_left
                ·simp only [Act.put, List.setIfInBounds_toArray, List.set_cons_zero, List.set_cons_succ, i64_w, i32_w]
                 rfl
                refine take_ (i := 10) (N := some 84) (v := ?_) (a' := ?_) #[true, true, true, true, true, true, true, true, true, true, true, false, false, false, false, false, false, false] rfl rfl (take_ofW HT_.out HW_.out (by kernel_rfl)) (fun _ _ _ h => h) (Or.inl ⟨by rfl, ?_⟩) hHeld ?_ ?_
                rotate_left
                ·rintro w' ⟨s0, s1⟩
                 go_simp
                 with_reducible rfl
                rotate_left
                ·simp only [Act.put, List.setIfInBounds_toArray, List.set_cons_zero, List.set_cons_succ, i64_w, i32_w]
                 rfl
                refine one_ (i := 11) (N := some 85) #[true, true, true, true, true, true, true, true, true, true, true, true, false, false, false, false, false, false] rfl rfl (one_of HT_.out (by kernel_rfl)) (by decide) (fun K hK => ?_)
                refine Kd.R_lit_step Kd.string _ 39 ?hg (N := 85) ?hd (xs := ([t136, rdOf ByteArray.empty t128 x61_2, rdOf ByteArray.empty t132 (ji22)] : List ByteArray)) (inner := [.string t136, .string (rdOf ByteArray.empty t128 x61_2), .string (rdOf ByteArray.empty t132 (ji22))]) (ok := fun _ => True) (okp := fun _ => True) ?hr ?hp (fun _ hk => hk) trivial (Below.refl _ _) (Nat.le_refl _) (by simp) ?_; (case hd => rfl); (case hg => rfl); (case hr => first | (go_simp; done) | (go_simp; rfl)); (case hp => exact (Reps.one (show Kd.M Kd.string _ _ _ t136 [.string t136] from rfl) (Reps.one (show Kd.M Kd.string _ _ _ (rdOf ByteArray.empty t128 x61_2) [.string (rdOf ByteArray.empty t128 x61_2)] from rfl) (Reps.one (show Kd.M Kd.string _ _ _ (rdOf ByteArray.empty t132 (ji22)) [.string (rdOf ByteArray.empty t132 (ji22))] from rfl) (Reps.none _ _)))))
                intro v141 w32 ho33 hb hg_ hnew_
                have HS0_ := (hb.cell (World.block_lt_of_cell? _ _ (hHeld.1))).trans (hHeld.1)
                have HS1_ := (hb.cell (World.block_lt_of_cell? _ _ (hHeld.2))).trans (hHeld.2)
                clear hg_ hnew_
                (first | rw [← Ny140.out] at ho33 | (simp only [Int.reduceToNat] at ho33; rw [← Ny140.out] at ho33))
                have n0_ := Aside0.mk (Kd.R_elder' z22_ (Kd.R_base ho33) hb)
                have n1_ := Aside0.mk (Kd.R_elder' z16_ (Kd.R_base ho33) hb)
                have n2_ := Aside0.mk (Kd.R_below z17_ hb)
                have n3_ := Aside0.mk (Kd.R_lower (Kd.R_new' (Kd.R_new' ho33 (Kd.R_lt z22_)) (Kd.R_lt z16_)) (below_size z10_))
                have n4_ := Aside0.mk (below_step z10_ hb)
                clear HO_8
                clear HO_10
                clear HO_11
                clear HB
                have HO_8 := n0_
                have HO_10 := n1_
                have HO_11 := n2_
                have HO142 := n3_
                have HB := n4_
                clear n0_ n1_ n2_ n3_ n4_
                clear hb ho33
                obtain ⟨Ao34, co34, eo34⟩ := Kd.R_slice HO142.out
                (first | subst eo34 | (injection eo34 with f1_ f2_ f3_; have f4_ := f1_.symm; have f5_ := f3_.symm; clear f1_ f2_ f3_; subst f4_; subst f5_))
                refine hK.out _ _ ⟨HS0_, HS1_⟩ (fun hHeld => ?_)
                clear hK K
                refine norm_ (a' := ?_) ?_ ?_
                rotate_left
                ·show Act.put _ (some 85) _ = _
                 simp only [Act.put, List.setIfInBounds_toArray, List.set_cons_zero, List.set_cons_succ, i64_w, i32_w]
                 rfl
                refine one_ (i := 12) (N := some 86) #[true, true, true, true, true, true, true, true, true, true, true, true, true, false, false, false, false, false] rfl rfl (one_of HT_.out (by kernel_rfl)) (by decide) (fun K hK => ?_)
                refine goes_ Tryz.func56 (by kernel_rfl) rfl #[.slice Ao34 y140.length co34] (by rfl) rfl rfl z9_ ?_
                with_reducible refine (dist_product.calls k2 _ _ y140 t143 t144 _ ?side1 ?side2 A25.out (Aside0.mk (Tabs.below HT.out z4_))).mono ?_
                (case side1 => repeat (first | exact (Kd.R_reads' HO142.out).2.2 | (with_reducible refine Kd.C_alloc ?_ _) | (with_reducible refine Kd.C_drewN ?_ _) | (with_reducible refine Kd.C_drew ?_)))
                (case side2 => exact (Kd.R_reads' HO142.out).2.1)
                rintro e w35 ⟨rfl, hb⟩
                have HS0_ := (hb.cell (World.block_lt_of_cell? _ _ (hHeld.1))).trans (hHeld.1)
                have HS1_ := (hb.cell (World.block_lt_of_cell? _ _ (hHeld.2))).trans (hHeld.2)
                refine ⟨_, rfl, ?_⟩
                have n0_ := Aside0.mk (Kd.R_below z22_ hb)
                have n1_ := Aside0.mk (Kd.R_below z16_ hb)
                have n2_ := Aside0.mk (Kd.R_below z17_ hb)
                have n3_ := Aside0.mk (Kd.R_below (by (with_reducible repeat (first | apply Kd.R_alloc | apply Kd.R_drewN | apply Kd.R_drew)); exact HO142.out) hb)
                have n4_ := Aside0.mk (below_step z10_ hb)
                clear HO_8
                clear HO_10
                clear HO_11
                clear HO142
                clear HB
                have HO_8 := n0_
                have HO_10 := n1_
                have HO_11 := n2_
                have HO142 := n3_
                have HB := n4_
                clear n0_ n1_ n2_ n3_ n4_
                (try clear hb)
                (try clear hb2)
                (try clear hk)
                (try clear hi)
                refine hK.out _ _ ⟨HS0_, HS1_⟩ (fun hHeld => ?_)
                clear hK K
                refine norm_ (a' := ?_) ?_ ?_
                rotate_left
                ·show Act.put _ (some 86) _ = _
                 simp only [Act.put, List.setIfInBounds_toArray, List.set_cons_zero, List.set_cons_succ, i64_w, i32_w]
                 rfl
                refine pu_ (i := 13) (N := some 73) #[true, true, true, true, true, true, true, true, true, true, true, true, true, true, false, false, false, false] HT_.out ?_
                refine pu_ (i := 14) (N := some 87) #[true, true, true, true, true, true, true, true, true, true, true, true, true, true, true, false, false, false] HT_.out ?_
                refine pu_ (i := 15) (N := some 88) #[true, true, true, true, true, true, true, true, true, true, true, true, true, true, true, true, false, false] HT_.out ?_
                refine pu_ (i := 16) (N := some 15) #[true, true, true, true, true, true, true, true, true, true, true, true, true, true, true, true, true, false] HT_.out ?_
                refine pu_ (i := 17) (N := some 14) #[true, true, true, true, true, true, true, true, true, true, true, true, true, true, true, true, true, true] HT_.out ?_
                refine done_ (done_of HT_.out (by kernel_rfl)) ?_
                try go_wp2
                go_roundg k2
                case measure => have := HJ3.out; have := HK2.out; omega
                case rel => exact ⟨(x11_2), (wrap64 (x61_2 + 1)), z25_, H', ⟨by have := HJ3.out; have := HK2.out; omega⟩, ⟨by (with_reducible repeat (first | apply Kd.R_alloc | apply Kd.R_drewN | apply Kd.R_drew)); exact Kd.R_mono HO_8.out (fun _ hk => hk.1)⟩, ⟨by (with_reducible repeat (first | apply Kd.R_alloc | apply Kd.R_drewN | apply Kd.R_drew)); exact Kd.R_mono HO_10.out (fun _ hk => hk.1)⟩, ⟨by (with_reducible repeat (first | apply Kd.R_alloc | apply Kd.R_drewN | apply Kd.R_drew)); first | exact HO_11.out | (simp only [w64_m256]; exact HO_11.out)⟩, ⟨by repeat (first | (with_reducible first | exact HB.out | apply below_alloc | apply pw_below_drewN | apply below_drew1) | exact HB.out)⟩⟩
               ·rw [if_neg c27] at H
                have c27b0 := beq_eq_false_iff_ne.mpr c27
                have c27b1 := bne_iff_ne.mpr c27
                by_cases c36 : x11_2.length < 5864062014805
                ·rw [if_pos c36] at H
                 have LMc36 := Aside0.mk c36
                 clear c36
                 obtain ⟨y145, hy145⟩ : ∃ y_ : List (S60), y_ = (x11_2 ++ [(⟨x61_2, t143⟩ : S60)]) := ⟨_, rfl⟩
                 replace H : (dist_Binomial.l0 k2 a0 t128 t132 y145 (wrap64 (a0 + 1)) (wrap64 (x61_2 + 1))) = some (r1, r2) := by first | (rw [hy145]; with_reducible exact H) | (have H2_ := (Option.bind_some _ _).symm.trans H; rw [hy145]; with_reducible exact H2_) | (have H2_ := (Option.bind_some _ _).symm.trans H; with_reducible exact H2_) | with_reducible exact H | (rw [hy145]; exact H) | exact H
                 have Ny145 := Aside0.mk hy145
                 clear hy145
                 have H' := Aside0.mk H
                 clear H
                 try go_wp2_with (first | (refine gz (f := 55) rfl (some 67) rfl Tryz.func55 (whole_Binomial.calls a0 x61_2 t136 t137 _ A18.out (Aside0.mk (Tabs.below HT.out z4_))) ?_; rintro w37 hb; have n0_ := Aside0.mk (Kd.R_below z22_ hb); have n1_ := Aside0.mk (Kd.R_below z16_ hb); have n2_ := Aside0.mk (Kd.R_below z17_ hb); have n3_ := Aside0.mk (below_step z10_ hb); clear HO_8; clear HO_10; clear HO_11; clear HB; have HO_8 := n0_; have HO_10 := n1_; have HO_11 := n2_; have HB := n3_; clear n0_ n1_ n2_ n3_; (try clear hb); (try clear hb2); (try clear hk); (try clear hi)))
                 have n0_ := Aside0.mk (Kd.R_drew HO_8.out)
                 have n1_ := Aside0.mk (Kd.R_drew HO_10.out)
                 have n2_ := Aside0.mk (Kd.R_drew HO_11.out)
                 have n3_ := Aside0.mk (below_drew1 HB.out)
                 clear HO_8
                 clear HO_10
                 clear HO_11
                 clear HB
                 have HO_8 := n0_
                 have HO_10 := n1_
                 have HO_11 := n2_
                 have HB := n3_
                 clear n0_ n1_ n2_ n3_
                 obtain ⟨Ao39, co39, eo39⟩ := Kd.R_slice HO_8.out
                 (first | subst eo39 | (injection eo39 with f1_ f2_ f3_; have f4_ := f1_.symm; have f5_ := f3_.symm; clear f1_ f2_ f3_; subst f4_; subst f5_))
                 have p138 : 0 ≤ (x61_2 : Int) := of_decide_eq_true z26_
                 have q138 : x61_2 < (t128.length : Int) := of_decide_eq_true z26_
                 obtain ⟨ad138, e138, hx138_0⟩ := Kd.at_string (Kd.R_reads' HO_8.out).2.2 x61_2 p138 q138
                 cases e138
                 replace p138 := eq_true p138
                 replace q138 := eq_true q138
                 obtain ⟨Ao40, co40, eo40⟩ := Kd.R_slice HO_10.out
                 (first | subst eo40 | (injection eo40 with f1_ f2_ f3_; have f4_ := f1_.symm; have f5_ := f3_.symm; clear f1_ f2_ f3_; subst f4_; subst f5_))
                 have p139 : 0 ≤ ((ji22) : Int) := of_decide_eq_true z26_
                 have q139 : (ji22) < (t132.length : Int) := of_decide_eq_true z26_
                 obtain ⟨ad139, e139, hx139_0⟩ := Kd.at_string (Kd.R_reads' HO_10.out).2.2 (ji22) p139 q139
                 cases e139
                 replace p139 := eq_true p139
                 replace q139 := eq_true q139
                 refine start_ (n := 18) (S := fun w' => w'.cell? (ad138.add (x61_2).toNat) = some (.string (rdOf ByteArray.empty t128 x61_2)) ∧ w'.cell? (ad139.add ((ji22)).toNat) = some (.string (rdOf ByteArray.empty t132 (ji22)))) (ds := []) #[false, false, false, false, false, false, false, false, false, false, false, false, false, false, false, false, false, false] (by kernel_rfl) rfl rfl ⟨hx138_0, hx139_0⟩ (fun hHeld => ?_); refine with_tabW dist_Binomial.tab16 dist_Binomial.bits16 (fun HT_ HW_ => ?_)
                 generalize w37.drew = w38 at HO_8 HO_10 HO_11 HB hx138_0 hx139_0 hHeld ⊢
                 refine pu_ (i := 0) (N := some 74) #[true, false, false, false, false, false, false, false, false, false, false, false, false, false, false, false, false, false] HT_.out ?_
                 refine pu_ (i := 1) (N := some 75) #[true, true, false, false, false, false, false, false, false, false, false, false, false, false, false, false, false, false] HT_.out ?_
                 refine pu_ (i := 2) (N := some 76) #[true, true, true, false, false, false, false, false, false, false, false, false, false, false, false, false, false, false] HT_.out ?_
                 refine pu_ (i := 3) (N := some 77) #[true, true, true, true, false, false, false, false, false, false, false, false, false, false, false, false, false, false] HT_.out ?_
                 refine pu_ (i := 5) (N := some 79) #[true, true, true, true, false, true, false, false, false, false, false, false, false, false, false, false, false, false] HT_.out ?_
                 refine pu_ (i := 6) (N := some 80) #[true, true, true, true, false, true, true, false, false, false, false, false, false, false, false, false, false, false] HT_.out ?_
                 refine pu_ (i := 7) (N := some 81) #[true, true, true, true, false, true, true, true, false, false, false, false, false, false, false, false, false, false] HT_.out ?_
                 refine pu_ (i := 8) (N := some 82) #[true, true, true, true, false, true, true, true, true, false, false, false, false, false, false, false, false, false] HT_.out ?_
                 refine pu_ (i := 9) (N := some 83) #[true, true, true, true, false, true, true, true, true, true, false, false, false, false, false, false, false, false] HT_.out ?_
                 refine take_ (i := 4) (N := some 78) (v := ?_) (a' := ?_) #[true, true, true, true, true, true, true, true, true, true, false, false, false, false, false, false, false, false] rfl rfl (take_ofW HT_.out HW_.out (by kernel_rfl)) (fun _ _ _ h => h) (Or.inl ⟨by rfl, ?_⟩) hHeld ?_ ?_
                 rotate_left
                 ·rintro w' ⟨s0, s1⟩
                  go_simp
                  with_reducible rfl
                 rotate_left
                 ·simp only [Act.put, List.setIfInBounds_toArray, List.set_cons_zero, List.set_cons_succ, i64_w, i32_w]
                  rfl
                 refine take_ (i := 10) (N := some 84) (v := ?_) (a' := ?_) #[true, true, true, true, true, true, true, true, true, true, true, false, false, false, false, false, false, false] rfl rfl (take_ofW HT_.out HW_.out (by kernel_rfl)) (fun _ _ _ h => h) (Or.inl ⟨by rfl, ?_⟩) hHeld ?_ ?_
                 rotate_left
                 ·rintro w' ⟨s0, s1⟩
                  go_simp
                  with_reducible rfl
                 rotate_left
                 ·simp only [Act.put, List.setIfInBounds_toArray, List.set_cons_zero, List.set_cons_succ, i64_w, i32_w]
                  rfl
                 refine one_ (i := 11) (N := some 85) #[true, true, true, true, true, true, true, true, true, true, true, true, false, false, false, false, false, false] rfl rfl (one_of HT_.out (by kernel_rfl)) (by decide) (fun K hK => ?_)
                 refine Kd.R_lit_step Kd.string _ 39 ?hg (N := 85) ?hd (xs := ([t136, rdOf ByteArray.empty t128 x61_2, rdOf ByteArray.empty t132 (ji22)] : List ByteArray)) (inner := [.string t136, .string (rdOf ByteArray.empty t128 x61_2), .string (rdOf ByteArray.empty t132 (ji22))]) (ok := fun _ => True) (okp := fun _ => True) ?hr ?hp (fun _ hk => hk) trivial (Below.refl _ _) (Nat.le_refl _) (by simp) ?_; (case hd => rfl); (case hg => rfl); (case hr => first | (go_simp; done) | (go_simp; rfl)); (case hp => exact (Reps.one (show Kd.M Kd.string _ _ _ t136 [.string t136] from rfl) (Reps.one (show Kd.M Kd.string _ _ _ (rdOf ByteArray.empty t128 x61_2) [.string (rdOf ByteArray.empty t128 x61_2)] from rfl) (Reps.one (show Kd.M Kd.string _ _ _ (rdOf ByteArray.empty t132 (ji22)) [.string (rdOf ByteArray.empty t132 (ji22))] from rfl) (Reps.none _ _)))))
                 intro v141 w41 ho42 hb hg_ hnew_
                 have HS0_ := (hb.cell (World.block_lt_of_cell? _ _ (hHeld.1))).trans (hHeld.1)
                 have HS1_ := (hb.cell (World.block_lt_of_cell? _ _ (hHeld.2))).trans (hHeld.2)
                 clear hg_ hnew_
                 (first | rw [← Ny140.out] at ho42 | (simp only [Int.reduceToNat] at ho42; rw [← Ny140.out] at ho42))
                 have n0_ := Aside0.mk (Kd.R_elder' z22_ (Kd.R_base ho42) hb)
                 have n1_ := Aside0.mk (Kd.R_elder' z16_ (Kd.R_base ho42) hb)
                 have n2_ := Aside0.mk (Kd.R_below z17_ hb)
                 have n3_ := Aside0.mk (Kd.R_lower (Kd.R_new' (Kd.R_new' ho42 (Kd.R_lt z22_)) (Kd.R_lt z16_)) (below_size z10_))
                 have n4_ := Aside0.mk (below_step z10_ hb)
                 clear HO_8
                 clear HO_10
                 clear HO_11
                 clear HB
                 have HO_8 := n0_
                 have HO_10 := n1_
                 have HO_11 := n2_
                 have HO142 := n3_
                 have HB := n4_
                 clear n0_ n1_ n2_ n3_ n4_
                 clear hb ho42
                 obtain ⟨Ao43, co43, eo43⟩ := Kd.R_slice HO142.out
                 (first | subst eo43 | (injection eo43 with f1_ f2_ f3_; have f4_ := f1_.symm; have f5_ := f3_.symm; clear f1_ f2_ f3_; subst f4_; subst f5_))
                 refine hK.out _ _ ⟨HS0_, HS1_⟩ (fun hHeld => ?_)
                 clear hK K
                 refine norm_ (a' := ?_) ?_ ?_
                 rotate_left
                 ·show Act.put _ (some 85) _ = _
                  simp only [Act.put, List.setIfInBounds_toArray, List.set_cons_zero, List.set_cons_succ, i64_w, i32_w]
                  rfl
                 refine one_ (i := 12) (N := some 86) #[true, true, true, true, true, true, true, true, true, true, true, true, true, false, false, false, false, false] rfl rfl (one_of HT_.out (by kernel_rfl)) (by decide) (fun K hK => ?_)
                 refine goes_ Tryz.func56 (by kernel_rfl) rfl #[.slice Ao43 y140.length co43] (by rfl) rfl rfl z9_ ?_
                 with_reducible refine (dist_product.calls k2 _ _ y140 t143 t144 _ ?side1 ?side2 A25.out (Aside0.mk (Tabs.below HT.out z4_))).mono ?_
                 (case side1 => repeat (first | exact (Kd.R_reads' HO142.out).2.2 | (with_reducible refine Kd.C_alloc ?_ _) | (with_reducible refine Kd.C_drewN ?_ _) | (with_reducible refine Kd.C_drew ?_)))
                 (case side2 => exact (Kd.R_reads' HO142.out).2.1)
                 rintro e w44 ⟨rfl, hb⟩
                 have HS0_ := (hb.cell (World.block_lt_of_cell? _ _ (hHeld.1))).trans (hHeld.1)
                 have HS1_ := (hb.cell (World.block_lt_of_cell? _ _ (hHeld.2))).trans (hHeld.2)
                 refine ⟨_, rfl, ?_⟩
                 have n0_ := Aside0.mk (Kd.R_below z22_ hb)
                 have n1_ := Aside0.mk (Kd.R_below z16_ hb)
                 have n2_ := Aside0.mk (Kd.R_below z17_ hb)
                 have n3_ := Aside0.mk (Kd.R_below (by (with_reducible repeat (first | apply Kd.R_alloc | apply Kd.R_drewN | apply Kd.R_drew)); exact HO142.out) hb)
                 have n4_ := Aside0.mk (below_step z10_ hb)
                 clear HO_8
                 clear HO_10
                 clear HO_11
                 clear HO142
                 clear HB
                 have HO_8 := n0_
                 have HO_10 := n1_
                 have HO_11 := n2_
                 have HO142 := n3_
                 have HB := n4_
                 clear n0_ n1_ n2_ n3_ n4_
                 (try clear hb)
                 (try clear hb2)
                 (try clear hk)
                 (try clear hi)
                 refine hK.out _ _ ⟨HS0_, HS1_⟩ (fun hHeld => ?_)
                 clear hK K
                 refine norm_ (a' := ?_) ?_ ?_
                 rotate_left
                 ·show Act.put _ (some 86) _ = _
                  simp only [Act.put, List.setIfInBounds_toArray, List.set_cons_zero, List.set_cons_succ, i64_w, i32_w]
                  rfl
                 refine pu_ (i := 13) (N := some 73) #[true, true, true, true, true, true, true, true, true, true, true, true, true, true, false, false, false, false] HT_.out ?_
                 refine pu_ (i := 14) (N := some 87) #[true, true, true, true, true, true, true, true, true, true, true, true, true, true, true, false, false, false] HT_.out ?_
                 refine pu_ (i := 15) (N := some 88) #[true, true, true, true, true, true, true, true, true, true, true, true, true, true, true, true, false, false] HT_.out ?_
                 refine pu_ (i := 16) (N := some 15) #[true, true, true, true, true, true, true, true, true, true, true, true, true, true, true, true, true, false] HT_.out ?_
                 refine pu_ (i := 17) (N := some 14) #[true, true, true, true, true, true, true, true, true, true, true, true, true, true, true, true, true, true] HT_.out ?_
                 refine done_ (done_of HT_.out (by kernel_rfl)) ?_
                 try go_wp2_with (first | ((with_reducible refine gate_builtin (b := .append) (xs := #[.tmp 94, .tmp 98]) rfl ?_); at_builtin; refine Kd.R_append k60 (w0 := w) w.heap.size rfl (.tmp 94) (.tmp 98) 22 60 (.agg #[(.int .i64 0), (.string ⟨#[]⟩)]) 24 rfl Tryz.underlying22 info60 rfl (by decide) (by omega) u11 x11_2 (⟨x61_2, t143⟩ : S60) [.int .i64 x61_2, .string t143] (fun _ => True) (fun _ => False) rfl rfl ?aP (fun _ hk => hk.elim) ?aF ?aO ?aB ?aS ?aL ?_; (case aP => exact k60_mkM _ _ _ (⟨x61_2, t143⟩ : S60)); (case aB => exact z10_); (case aF => exact (fun _ _ => trivial)); (case aO => exact z17_); (case aS => exact (below_size z10_)); (case aL => have := LMc36.out; omega); intro v146 w45 ho hb hg hat; rw [← Ny145.out] at ho; have n0_ := Aside0.mk (Kd.R_over' z22_ (Kd.R_typed z17_) (by decide) hg); have n1_ := Aside0.mk (Kd.R_over' z16_ (Kd.R_typed z17_) (by decide) hg); have n2_ := Aside0.mk (Kd.R_over' (by (with_reducible repeat (first | apply Kd.R_alloc | apply Kd.R_drewN | apply Kd.R_drew)); exact HO142.out) (Kd.R_typed z17_) (by decide) hg); have n3_ := Aside0.mk (hb); have n4_ := Aside0.mk (ho); clear HO_8; clear HO_10; clear HO142; clear HB; clear HO_11; have HO_8 := n0_; have HO_10 := n1_; have HO142 := n2_; have HB := n3_; have HO147 := n4_; clear n0_ n1_ n2_ n3_ n4_; clear ho hb hg hat))
                 go_roundg k2
                 case measure => have := HJ3.out; have := HK2.out; omega
                 case rel => exact ⟨(y145), (wrap64 (x61_2 + 1)), z25_, H', ⟨by have := HJ3.out; have := HK2.out; omega⟩, ⟨by (with_reducible repeat (first | apply Kd.R_alloc | apply Kd.R_drewN | apply Kd.R_drew)); exact Kd.R_mono HO_8.out (fun _ hk => hk.1)⟩, ⟨by (with_reducible repeat (first | apply Kd.R_alloc | apply Kd.R_drewN | apply Kd.R_drew)); exact Kd.R_mono HO_10.out (fun _ hk => hk.1)⟩, ⟨by (with_reducible repeat (first | apply Kd.R_alloc | apply Kd.R_drewN | apply Kd.R_drew)); first | exact HO147.out | (simp only [w64_m256]; exact HO147.out)⟩, ⟨by repeat (first | (with_reducible first | exact HB.out | apply below_alloc | apply pw_below_drewN | apply below_drew1) | exact HB.out)⟩⟩
                ·rw [if_neg c36] at H
                 exact absurd H (by simp)
              ·rw [if_neg c26] at H
               have c26b0 := beq_eq_false_iff_ne.mpr c26
               have c26b1 := bne_iff_ne.mpr c26
               simp only [Option.some.injEq, Prod.mk.injEq] at H
               obtain ⟨rfl, rfl⟩ := H
               try go_wp2_with (first | (refine gz (f := 55) rfl (some 67) rfl Tryz.func55 (whole_Binomial.calls a0 x61_2 t136 t137 _ A18.out (Aside0.mk (Tabs.below HT.out z4_))) ?_; rintro w46 hb; have n0_ := Aside0.mk (Kd.R_below z22_ hb); have n1_ := Aside0.mk (Kd.R_below z16_ hb); have n2_ := Aside0.mk (Kd.R_below z17_ hb); have n3_ := Aside0.mk (below_step z10_ hb); clear HO_8; clear HO_10; clear HO_11; clear HB; have HO_8 := n0_; have HO_10 := n1_; have HO_11 := n2_; have HB := n3_; clear n0_ n1_ n2_ n3_; (try clear hb); (try clear hb2); (try clear hk); (try clear hi)))
               have n0_ := Aside0.mk (Kd.R_drew HO_8.out)
               have n1_ := Aside0.mk (Kd.R_drew HO_10.out)
               have n2_ := Aside0.mk (Kd.R_drew HO_11.out)
               have n3_ := Aside0.mk (below_drew1 HB.out)
               clear HO_8
               clear HO_10
               clear HO_11
               clear HB
               have HO_8 := n0_
               have HO_10 := n1_
               have HO_11 := n2_
               have HB := n3_
               clear n0_ n1_ n2_ n3_
               obtain ⟨Ao48, co48, eo48⟩ := Kd.R_slice HO_8.out
               (first | subst eo48 | (injection eo48 with f1_ f2_ f3_; have f4_ := f1_.symm; have f5_ := f3_.symm; clear f1_ f2_ f3_; subst f4_; subst f5_))
               have p138 : 0 ≤ (x61_2 : Int) := of_decide_eq_true z26_
               have q138 : x61_2 < (t128.length : Int) := of_decide_eq_true z26_
               obtain ⟨ad138, e138, hx138_0⟩ := Kd.at_string (Kd.R_reads' HO_8.out).2.2 x61_2 p138 q138
               cases e138
               replace p138 := eq_true p138
               replace q138 := eq_true q138
               obtain ⟨Ao49, co49, eo49⟩ := Kd.R_slice HO_10.out
               (first | subst eo49 | (injection eo49 with f1_ f2_ f3_; have f4_ := f1_.symm; have f5_ := f3_.symm; clear f1_ f2_ f3_; subst f4_; subst f5_))
               have p139 : 0 ≤ ((ji22) : Int) := of_decide_eq_true z26_
               have q139 : (ji22) < (t132.length : Int) := of_decide_eq_true z26_
               obtain ⟨ad139, e139, hx139_0⟩ := Kd.at_string (Kd.R_reads' HO_10.out).2.2 (ji22) p139 q139
               cases e139
               replace p139 := eq_true p139
               replace q139 := eq_true q139
               refine start_ (n := 18) (S := fun w' => w'.cell? (ad138.add (x61_2).toNat) = some (.string (rdOf ByteArray.empty t128 x61_2)) ∧ w'.cell? (ad139.add ((ji22)).toNat) = some (.string (rdOf ByteArray.empty t132 (ji22)))) (ds := []) #[false, false, false, false, false, false, false, false, false, false, false, false, false, false, false, false, false, false] (by kernel_rfl) rfl rfl ⟨hx138_0, hx139_0⟩ (fun hHeld => ?_); refine with_tabW dist_Binomial.tab16 dist_Binomial.bits16 (fun HT_ HW_ => ?_)
               generalize w46.drew = w47 at HO_8 HO_10 HO_11 HB hx138_0 hx139_0 hHeld ⊢
               refine pu_ (i := 0) (N := some 74) #[true, false, false, false, false, false, false, false, false, false, false, false, false, false, false, false, false, false] HT_.out ?_
               refine pu_ (i := 1) (N := some 75) #[true, true, false, false, false, false, false, false, false, false, false, false, false, false, false, false, false, false] HT_.out ?_
               refine pu_ (i := 2) (N := some 76) #[true, true, true, false, false, false, false, false, false, false, false, false, false, false, false, false, false, false] HT_.out ?_
               refine pu_ (i := 3) (N := some 77) #[true, true, true, true, false, false, false, false, false, false, false, false, false, false, false, false, false, false] HT_.out ?_
               refine pu_ (i := 5) (N := some 79) #[true, true, true, true, false, true, false, false, false, false, false, false, false, false, false, false, false, false] HT_.out ?_
               refine pu_ (i := 6) (N := some 80) #[true, true, true, true, false, true, true, false, false, false, false, false, false, false, false, false, false, false] HT_.out ?_
               refine pu_ (i := 7) (N := some 81) #[true, true, true, true, false, true, true, true, false, false, false, false, false, false, false, false, false, false] HT_.out ?_
               refine pu_ (i := 8) (N := some 82) #[true, true, true, true, false, true, true, true, true, false, false, false, false, false, false, false, false, false] HT_.out ?_
               refine pu_ (i := 9) (N := some 83) #[true, true, true, true, false, true, true, true, true, true, false, false, false, false, false, false, false, false] HT_.out ?_
               refine take_ (i := 4) (N := some 78) (v := ?_) (a' := ?_) #[true, true, true, true, true, true, true, true, true, true, false, false, false, false, false, false, false, false] rfl rfl (take_ofW HT_.out HW_.out (by kernel_rfl)) (fun _ _ _ h => h) (Or.inl ⟨by rfl, ?_⟩) hHeld ?_ ?_
               rotate_left
               ·rintro w' ⟨s0, s1⟩
                go_simp
                with_reducible rfl
               rotate_left
               ·simp only [Act.put, List.setIfInBounds_toArray, List.set_cons_zero, List.set_cons_succ, i64_w, i32_w]
                rfl
               refine take_ (i := 10) (N := some 84) (v := ?_) (a' := ?_) #[true, true, true, true, true, true, true, true, true, true, true, false, false, false, false, false, false, false] rfl rfl (take_ofW HT_.out HW_.out (by kernel_rfl)) (fun _ _ _ h => h) (Or.inl ⟨by rfl, ?_⟩) hHeld ?_ ?_
               rotate_left
               ·rintro w' ⟨s0, s1⟩
                go_simp
                with_reducible rfl
               rotate_left
               ·simp only [Act.put, List.setIfInBounds_toArray, List.set_cons_zero, List.set_cons_succ, i64_w, i32_w]
                rfl
               refine one_ (i := 11) (N := some 85) #[true, true, true, true, true, true, true, true, true, true, true, true, false, false, false, false, false, false] rfl rfl (one_of HT_.out (by kernel_rfl)) (by decide) (fun K hK => ?_)
               refine Kd.R_lit_step Kd.string _ 39 ?hg (N := 85) ?hd (xs := ([t136, rdOf ByteArray.empty t128 x61_2, rdOf ByteArray.empty t132 (ji22)] : List ByteArray)) (inner := [.string t136, .string (rdOf ByteArray.empty t128 x61_2), .string (rdOf ByteArray.empty t132 (ji22))]) (ok := fun _ => True) (okp := fun _ => True) ?hr ?hp (fun _ hk => hk) trivial (Below.refl _ _) (Nat.le_refl _) (by simp) ?_; (case hd => rfl); (case hg => rfl); (case hr => first | (go_simp; done) | (go_simp; rfl)); (case hp => exact (Reps.one (show Kd.M Kd.string _ _ _ t136 [.string t136] from rfl) (Reps.one (show Kd.M Kd.string _ _ _ (rdOf ByteArray.empty t128 x61_2) [.string (rdOf ByteArray.empty t128 x61_2)] from rfl) (Reps.one (show Kd.M Kd.string _ _ _ (rdOf ByteArray.empty t132 (ji22)) [.string (rdOf ByteArray.empty t132 (ji22))] from rfl) (Reps.none _ _)))))
               intro v141 w50 ho51 hb hg_ hnew_
               have HS0_ := (hb.cell (World.block_lt_of_cell? _ _ (hHeld.1))).trans (hHeld.1)
               have HS1_ := (hb.cell (World.block_lt_of_cell? _ _ (hHeld.2))).trans (hHeld.2)
               clear hg_ hnew_
               (first | rw [← Ny140.out] at ho51 | (simp only [Int.reduceToNat] at ho51; rw [← Ny140.out] at ho51))
               have n0_ := Aside0.mk (Kd.R_elder' z22_ (Kd.R_base ho51) hb)
               have n1_ := Aside0.mk (Kd.R_elder' z16_ (Kd.R_base ho51) hb)
               have n2_ := Aside0.mk (Kd.R_below z17_ hb)
               have n3_ := Aside0.mk (Kd.R_lower (Kd.R_new' (Kd.R_new' ho51 (Kd.R_lt z22_)) (Kd.R_lt z16_)) (below_size z10_))
               have n4_ := Aside0.mk (below_step z10_ hb)
               clear HO_8
               clear HO_10
               clear HO_11
               clear HB
               have HO_8 := n0_
               have HO_10 := n1_
               have HO_11 := n2_
               have HO142 := n3_
               have HB := n4_
               clear n0_ n1_ n2_ n3_ n4_
               clear hb ho51
               obtain ⟨Ao52, co52, eo52⟩ := Kd.R_slice HO142.out
               (first | subst eo52 | (injection eo52 with f1_ f2_ f3_; have f4_ := f1_.symm; have f5_ := f3_.symm; clear f1_ f2_ f3_; subst f4_; subst f5_))
               refine hK.out _ _ ⟨HS0_, HS1_⟩ (fun hHeld => ?_)
               clear hK K
               refine norm_ (a' := ?_) ?_ ?_
               rotate_left
               ·show Act.put _ (some 85) _ = _
                simp only [Act.put, List.setIfInBounds_toArray, List.set_cons_zero, List.set_cons_succ, i64_w, i32_w]
                rfl
               refine one_ (i := 12) (N := some 86) #[true, true, true, true, true, true, true, true, true, true, true, true, true, false, false, false, false, false] rfl rfl (one_of HT_.out (by kernel_rfl)) (by decide) (fun K hK => ?_)
               refine goes_ Tryz.func56 (by kernel_rfl) rfl #[.slice Ao52 y140.length co52] (by rfl) rfl rfl z9_ ?_
               with_reducible refine (dist_product.calls k2 _ _ y140 t143 t144 _ ?side1 ?side2 A25.out (Aside0.mk (Tabs.below HT.out z4_))).mono ?_
               (case side1 => repeat (first | exact (Kd.R_reads' HO142.out).2.2 | (with_reducible refine Kd.C_alloc ?_ _) | (with_reducible refine Kd.C_drewN ?_ _) | (with_reducible refine Kd.C_drew ?_)))
               (case side2 => exact (Kd.R_reads' HO142.out).2.1)
               rintro e w53 ⟨rfl, hb⟩
               have HS0_ := (hb.cell (World.block_lt_of_cell? _ _ (hHeld.1))).trans (hHeld.1)
               have HS1_ := (hb.cell (World.block_lt_of_cell? _ _ (hHeld.2))).trans (hHeld.2)
               refine ⟨_, rfl, ?_⟩
               have n0_ := Aside0.mk (Kd.R_below z22_ hb)
               have n1_ := Aside0.mk (Kd.R_below z16_ hb)
               have n2_ := Aside0.mk (Kd.R_below z17_ hb)
               have n3_ := Aside0.mk (Kd.R_below (by (with_reducible repeat (first | apply Kd.R_alloc | apply Kd.R_drewN | apply Kd.R_drew)); exact HO142.out) hb)
               have n4_ := Aside0.mk (below_step z10_ hb)
               clear HO_8
               clear HO_10
               clear HO_11
               clear HO142
               clear HB
               have HO_8 := n0_
               have HO_10 := n1_
               have HO_11 := n2_
               have HO142 := n3_
               have HB := n4_
               clear n0_ n1_ n2_ n3_ n4_
               (try clear hb)
               (try clear hb2)
               (try clear hk)
               (try clear hi)
               refine hK.out _ _ ⟨HS0_, HS1_⟩ (fun hHeld => ?_)
               clear hK K
               refine norm_ (a' := ?_) ?_ ?_
               rotate_left
               ·show Act.put _ (some 86) _ = _
                simp only [Act.put, List.setIfInBounds_toArray, List.set_cons_zero, List.set_cons_succ, i64_w, i32_w]
                rfl
               refine pu_ (i := 13) (N := some 73) #[true, true, true, true, true, true, true, true, true, true, true, true, true, true, false, false, false, false] HT_.out ?_
               refine pu_ (i := 14) (N := some 87) #[true, true, true, true, true, true, true, true, true, true, true, true, true, true, true, false, false, false] HT_.out ?_
               refine pu_ (i := 15) (N := some 88) #[true, true, true, true, true, true, true, true, true, true, true, true, true, true, true, true, false, false] HT_.out ?_
               refine pu_ (i := 16) (N := some 15) #[true, true, true, true, true, true, true, true, true, true, true, true, true, true, true, true, true, false] HT_.out ?_
               refine pu_ (i := 17) (N := some 14) #[true, true, true, true, true, true, true, true, true, true, true, true, true, true, true, true, true, true] HT_.out ?_
               refine done_ (done_of HT_.out (by kernel_rfl)) ?_
               try go_wp2
               go_ret2
               exact ⟨_, by first | rfl | (simp [errW_none, errW_some] <;> rfl) | (simp only [← hji22]; first | rfl | (simp [errW_none, errW_some] <;> rfl)) | (simp [*, errW_none, errW_some] <;> rfl), by first | exact Kd.R_nil _ _ _ _ _ | exact Kd.N_nil _ _ _ _ _ | exact Kd.V_nil _ _ _ _ _ | exact Kd.Q_nil _ _ _ _ _ | exact Kd.S_nil _ _ _ _ _, z10_⟩
             ·rw [if_neg c24] at H
              exact absurd H (by simp)
            ·rw [if_neg c23] at H
             exact absurd H (by simp)
           ·rw [if_neg c21] at H
            exact absurd H (by simp)
          ·rw [if_neg c20] at H
           exact absurd H (by simp)
         ·rw [if_neg c19] at H
          have c19b0 := beq_eq_false_iff_ne.mpr c19
          have c19b1 := bne_iff_ne.mpr c19
          simp only [Option.some.injEq, Prod.mk.injEq] at H
          obtain ⟨rfl, rfl⟩ := H
          go_wp2_with (first | (refine gz (f := 55) rfl (some 67) rfl Tryz.func55 (whole_Binomial.calls a0 x61_2 t136 t137 _ A18.out (Aside0.mk (Tabs.below HT.out z4_))) ?_; rintro w54 hb; have n0_ := Aside0.mk (Kd.R_below z22_ hb); have n1_ := Aside0.mk (Kd.R_below z16_ hb); have n2_ := Aside0.mk (Kd.R_below z17_ hb); have n3_ := Aside0.mk (below_step z10_ hb); clear HO_8; clear HO_10; clear HO_11; clear HB; have HO_8 := n0_; have HO_10 := n1_; have HO_11 := n2_; have HB := n3_; clear n0_ n1_ n2_ n3_; (try clear hb); (try clear hb2); (try clear hk); (try clear hi)))
          go_ret2
          exact ⟨_, z24_, by first | exact Kd.R_nil _ _ _ _ _ | exact Kd.N_nil _ _ _ _ _ | exact Kd.V_nil _ _ _ _ _ | exact Kd.Q_nil _ _ _ _ _ | exact Kd.S_nil _ _ _ _ _, z10_⟩
        ·rw [if_neg c17] at H
         have c17b0 : decide (x61_2 < (wrap64 (a0 + 1))) = false := decide_eq_false c17
         clear c17
         simp only [Option.some.injEq, Prod.mk.injEq] at H
         obtain ⟨rfl, rfl⟩ := H
         go_wp2
         go_ret2
         exact ⟨_, z24_, by (with_reducible repeat (first | apply Kd.R_alloc | apply Kd.R_drewN | apply Kd.R_drew)); exact HO_11.out, z10_⟩
     ·rw [if_neg c14] at H
      have c14b0 := beq_eq_false_iff_ne.mpr c14
      have c14b1 := bne_iff_ne.mpr c14
      simp only [Option.some.injEq, Prod.mk.injEq] at H
      obtain ⟨rfl, rfl⟩ := H
      go_wp2_with (first | ((with_reducible refine gate_callee (f := 54) rfl ?_); refine goesL_ (some 42) rfl rfl Tryz.func54 (by kernel_rfl) rfl #[.int .i64 a1, .int .i64 a0] rfl z9_ ?_; (with_reducible refine (dist_powers.calls kj3 a1 a0 t128 t129 _ A11.out (Aside0.mk (Tabs.below HT.out z4_))).mono ?_); rintro e w55 ⟨v130, rfl, ho0, hb⟩; refine ⟨_, rfl, ?_⟩; have n0_ := Aside0.mk (Kd.R_lower ho0 (below_size z10_)); have n1_ := Aside0.mk (below_step z10_ hb); clear HB; have HO131 := n0_; have HB := n1_; clear n0_ n1_; (try clear hb); (try clear hb2); (try clear hk); (try clear hi); (try clear ho0)) | ((with_reducible refine gate_callee (f := 54) rfl ?_); refine goesL_ (some 53) rfl rfl Tryz.func54 (by kernel_rfl) rfl #[.int .i64 (wrap64 (a2 - a1)), .int .i64 a0] rfl z9_ ?_; (with_reducible refine (dist_powers.calls kj3 (wrap64 (a2 - a1)) a0 t132 t133 _ A13.out (Aside0.mk (Tabs.below HT.out z4_))).mono ?_); rintro e w56 ⟨v134, rfl, ho0, hb⟩; refine ⟨_, rfl, ?_⟩; have n0_ := Aside0.mk (Kd.R_elder' (by (with_reducible repeat (first | apply Kd.R_alloc | apply Kd.R_drewN | apply Kd.R_drew)); exact HO131.out) (Kd.R_base ho0) hb); have n1_ := Aside0.mk (Kd.R_lower (Kd.R_new' ho0 (Kd.R_lt (by (with_reducible repeat (first | apply Kd.R_alloc | apply Kd.R_drewN | apply Kd.R_drew)); exact HO131.out))) (below_size z10_)); have n2_ := Aside0.mk (below_step z10_ hb); clear HO131; clear HB; have HO131 := n0_; have HO135 := n1_; have HB := n2_; clear n0_ n1_ n2_; (try clear hb); (try clear hb2); (try clear hk); (try clear hi); (try clear ho0)))
      go_ret2
      exact ⟨_, z24_, by first | exact Kd.R_nil _ _ _ _ _ | exact Kd.N_nil _ _ _ _ _ | exact Kd.V_nil _ _ _ _ _ | exact Kd.Q_nil _ _ _ _ _ | exact Kd.S_nil _ _ _ _ _, z10_⟩
    ·rw [if_neg c12] at H
     have c12b0 := beq_eq_false_iff_ne.mpr c12
     have c12b1 := bne_iff_ne.mpr c12
     simp only [Option.some.injEq, Prod.mk.injEq] at H
     obtain ⟨rfl, rfl⟩ := H
     go_wp2_with (first | ((with_reducible refine gate_callee (f := 54) rfl ?_); refine goesL_ (some 42) rfl rfl Tryz.func54 (by kernel_rfl) rfl #[.int .i64 a1, .int .i64 a0] rfl z9_ ?_; (with_reducible refine (dist_powers.calls kj3 a1 a0 t128 t129 _ A11.out (Aside0.mk (Tabs.below HT.out z4_))).mono ?_); rintro e w57 ⟨v130, rfl, ho0, hb⟩; refine ⟨_, rfl, ?_⟩; have n0_ := Aside0.mk (Kd.R_lower ho0 (below_size z10_)); have n1_ := Aside0.mk (below_step z10_ hb); clear HB; have HO131 := n0_; have HB := n1_; clear n0_ n1_; (try clear hb); (try clear hb2); (try clear hk); (try clear hi); (try clear ho0)))
     go_ret2
     exact ⟨_, z24_, by first | exact Kd.R_nil _ _ _ _ _ | exact Kd.N_nil _ _ _ _ _ | exact Kd.V_nil _ _ _ _ _ | exact Kd.Q_nil _ _ _ _ _ | exact Kd.S_nil _ _ _ _ _, z10_⟩
end Go.Proofs.YtkdpcgmnkifbbaaGreatDoor.D
