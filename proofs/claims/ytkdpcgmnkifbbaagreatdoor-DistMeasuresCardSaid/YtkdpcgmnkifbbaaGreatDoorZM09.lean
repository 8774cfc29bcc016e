/- Joined by a program of this session out of its texts, with only what the last theorem needs: Rx3 Rx4. No conditions but those stated. -/
import Derived.Test.YtkdpcgmnkifbbaaGreatDoorZM07
import Derived.Test.YtkdpcgmnkifbbaaGreatDoorZM08
set_option linter.unusedVariables false
set_option linter.unusedSimpArgs false
namespace Go.Proofs.YtkdpcgmnkifbbaaGreatDoorW.PrintLast
end Go.Proofs.YtkdpcgmnkifbbaaGreatDoorW.PrintLast
namespace Go.Proofs.YtkdpcgmnkifbbaaGreatDoorW.PrintMore
end Go.Proofs.YtkdpcgmnkifbbaaGreatDoorW.PrintMore
namespace Go.Proofs.YtkdpcgmnkifbbaaGreatDoorW.PrintWords
end Go.Proofs.YtkdpcgmnkifbbaaGreatDoorW.PrintWords
section
namespace Go.Proofs.YtkdpcgmnkifbbaaGreatDoor.R
open Go.RowKit Go.Proofs.YtkdpcgmnkifbbaaGreatDoorW.PrintWords Go.Proofs.YtkdpcgmnkifbbaaGreatDoorW.PrintLast Go.Proofs.YtkdpcgmnkifbbaaGreatDoorW.PrintMore
attribute [local go_sem] max2_int min2_int max_two min_two max_three min_three max_four min_four
set_option linter.unusedVariables false
set_option linter.unusedSimpArgs false
def metrolabref01_Plus.f (k : Nat) (a0 : ByteArray) (a1 : ByteArray) : Option (ByteArray) := (metrolabref01_brief.f k a0 a1).bind fun bt128 => (if bt128.2.2 = true then ((metrolabref01_Of.f k (wrap64 (bt128.1 + bt128.2.1))).bind fun t131 => (some t131)) else ((metrolabref01_size.f a0).bind fun t132 => ((metrolabref01_size.f a1).bind fun t133 => ((metrolabref01_Below.f a0).bind fun t134 => ((metrolabref01_Below.f a1).bind fun t135 => (if (t134 == t135) = true then ((metrolabref01_paper.f k t132 t133 true).bind fun t136 => ((metrolabref01_Below.f a0).bind fun t137 => ((metrolabref01_signed.f t136 t137).bind fun t138 => (some t138)))) else ((metrolabref01_less.f t132 t133).bind fun t139 => (if t139 = true then ((metrolabref01_paper.f k t133 t132 false).bind fun t140 => ((metrolabref01_Below.f a1).bind fun t141 => ((metrolabref01_signed.f t140 t141).bind fun t142 => (some t142)))) else ((metrolabref01_paper.f k t132 t133 false).bind fun t143 => ((metrolabref01_Below.f a0).bind fun t144 => ((metrolabref01_signed.f t143 t144).bind fun t145 => (some t145))))))))))))
set_option maxHeartbeats 8000000 in
set_option maxRecDepth 100000 in
theorem metrolabref01_Plus.calls (k : Nat) (a0 : ByteArray) (a1 : ByteArray) (r : ByteArray) (w : World) (h : metrolabref01_Plus.f k a0 a1 = some r) :
  Calls Tryz.prog 76 #[.string a0, .string a1] w fun e w' => e = .returned (.string r) ∧ Below w.heap.size w w' := by
 have HB := Aside0.mk (Below.refl w.heap.size w)
 have H : ((metrolabref01_brief.f k a0 a1).bind fun bt128 => (if bt128.2.2 = true then ((metrolabref01_Of.f k (wrap64 (bt128.1 + bt128.2.1))).bind fun t131 => (some t131)) else ((metrolabref01_size.f a0).bind fun t132 => ((metrolabref01_size.f a1).bind fun t133 => ((metrolabref01_Below.f a0).bind fun t134 => ((metrolabref01_Below.f a1).bind fun t135 => (if (t134 == t135) = true then ((metrolabref01_paper.f k t132 t133 true).bind fun t136 => ((metrolabref01_Below.f a0).bind fun t137 => ((metrolabref01_signed.f t136 t137).bind fun t138 => (some t138)))) else ((metrolabref01_less.f t132 t133).bind fun t139 => (if t139 = true then ((metrolabref01_paper.f k t133 t132 false).bind fun t140 => ((metrolabref01_Below.f a1).bind fun t141 => ((metrolabref01_signed.f t140 t141).bind fun t142 => (some t142)))) else ((metrolabref01_paper.f k t132 t133 false).bind fun t143 => ((metrolabref01_Below.f a0).bind fun t144 => ((metrolabref01_signed.f t143 t144).bind fun t145 => (some t145))))))))))))) = some r := h
 clear h
 obtain ⟨⟨t128, t129, t130⟩, A3, H⟩ := bindA H
 dsimp only at H
 by_cases c4 : t130 = true
 ·subst c4
  rw [if_pos rfl] at H
  obtain ⟨t131, A5, H⟩ := bindA H
  obtain rfl := Option.some.inj H
  go_enter Tryz.func76, Tryz.ntmps76
  go_wp2_with (first | (refine gz (f := 105) rfl (some 13) rfl Tryz.func105 (metrolabref01_brief.calls k a0 a1 t128 t129 true _ A3.out) ?_; rintro w' ⟨nd, rfl⟩) | (refine gy (f := 106) rfl (some 21) rfl Tryz.func106 (metrolabref01_Of.calls k (wrap64 (t128 + t129)) t131 _ A5.out) z10_ ?_; clear HB; intro w6 HB))
  go_ret
  exact ⟨z24_, z10_⟩
 ·replace c4 := Bool.eq_false_iff.mpr c4
  subst c4
  rw [if_neg (show ¬ (false = true) by decide)] at H
  obtain ⟨t132, A7, H⟩ := bindA H
  obtain ⟨t133, A8, H⟩ := bindA H
  obtain ⟨t134, A9, H⟩ := bindA H
  obtain ⟨t135, A10, H⟩ := bindA H
  by_cases c11 : (t134 == t135) = true
  ·rw [if_pos c11] at H
   have c11b0 : (t134 == t135) = true := c11
   (try (have c11b1 : decide (t134 = t135) = true := by simpa using c11))
   (try (have c11b2 : (t134 == t135) = true := by simpa using c11))
   clear c11
   obtain ⟨t136, A12, H⟩ := bindA H
   obtain ⟨t137, A13, H⟩ := bindA H
   obtain ⟨t138, A14, H⟩ := bindA H
   obtain rfl := Option.some.inj H
   go_enter Tryz.func76, Tryz.ntmps76
   go_wp2_with (first | (refine gz (f := 105) rfl (some 13) rfl Tryz.func105 (metrolabref01_brief.calls k a0 a1 t128 t129 false _ A3.out) ?_; rintro w' ⟨nd, rfl⟩) | (refine gz (f := 90) rfl (some 23) rfl Tryz.func90 (metrolabref01_size.calls a0 t132 _ A7.out) ?_; rintro w' ⟨nd, rfl⟩) | (refine gz (f := 90) rfl (some 25) rfl Tryz.func90 (metrolabref01_size.calls a1 t133 _ A8.out) ?_; rintro w' ⟨nd, rfl⟩) | (refine gz (f := 92) rfl (some 27) rfl Tryz.func92 (metrolabref01_Below.calls a0 t134 _ A9.out) ?_; rintro w' ⟨nd, rfl⟩) | (refine gz (f := 92) rfl (some 29) rfl Tryz.func92 (metrolabref01_Below.calls a1 t135 _ A10.out) ?_; rintro w' ⟨nd, rfl⟩) | (refine gy (f := 117) rfl (some 33) rfl Tryz.func117 (metrolabref01_paper.calls k t132 t133 true t136 _ A12.out) z10_ ?_; clear HB; intro w15 HB) | (refine gz (f := 92) rfl (some 35) rfl Tryz.func92 (metrolabref01_Below.calls a0 t137 _ A13.out) ?_; rintro w' ⟨nd, rfl⟩) | (refine gz (f := 104) rfl (some 36) rfl Tryz.func104 (metrolabref01_signed.calls t136 t137 t138 _ A14.out) ?_; rintro w' ⟨nd, rfl⟩))
   go_ret
   exact ⟨z24_, z10_⟩
  ·rw [if_neg c11] at H
   have c11b0 : (t134 == t135) = false := by simpa using c11
   (try (have c11b1 : decide (t134 = t135) = false := by simpa using c11))
   (try (have c11b2 : (t134 == t135) = false := by simpa using c11))
   (try (have c11b3 : ¬ (t134 = t135) := by simpa using c11))
   clear c11
   obtain ⟨t139, A16, H⟩ := bindA H
   by_cases c17 : t139 = true
   ·subst c17
    rw [if_pos rfl] at H
    obtain ⟨t140, A18, H⟩ := bindA H
    obtain ⟨t141, A19, H⟩ := bindA H
    obtain ⟨t142, A20, H⟩ := bindA H
    obtain rfl := Option.some.inj H
    go_enter Tryz.func76, Tryz.ntmps76
    go_wp2_with (first | (refine gz (f := 105) rfl (some 13) rfl Tryz.func105 (metrolabref01_brief.calls k a0 a1 t128 t129 false _ A3.out) ?_; rintro w' ⟨nd, rfl⟩) | (refine gz (f := 90) rfl (some 23) rfl Tryz.func90 (metrolabref01_size.calls a0 t132 _ A7.out) ?_; rintro w' ⟨nd, rfl⟩) | (refine gz (f := 90) rfl (some 25) rfl Tryz.func90 (metrolabref01_size.calls a1 t133 _ A8.out) ?_; rintro w' ⟨nd, rfl⟩) | (refine gz (f := 92) rfl (some 27) rfl Tryz.func92 (metrolabref01_Below.calls a0 t134 _ A9.out) ?_; rintro w' ⟨nd, rfl⟩) | (refine gz (f := 92) rfl (some 29) rfl Tryz.func92 (metrolabref01_Below.calls a1 t135 _ A10.out) ?_; rintro w' ⟨nd, rfl⟩) | (refine gz (f := 118) rfl (some 39) rfl Tryz.func118 (metrolabref01_less.calls t132 t133 true _ A16.out) ?_; rintro w' ⟨nd, rfl⟩) | (refine gy (f := 117) rfl (some 42) rfl Tryz.func117 (metrolabref01_paper.calls k t133 t132 false t140 _ A18.out) z10_ ?_; clear HB; intro w21 HB) | (refine gz (f := 92) rfl (some 44) rfl Tryz.func92 (metrolabref01_Below.calls a1 t141 _ A19.out) ?_; rintro w' ⟨nd, rfl⟩) | (refine gz (f := 104) rfl (some 45) rfl Tryz.func104 (metrolabref01_signed.calls t140 t141 t142 _ A20.out) ?_; rintro w' ⟨nd, rfl⟩))
    go_ret
    exact ⟨z24_, z10_⟩
   ·replace c17 := Bool.eq_false_iff.mpr c17
    subst c17
    rw [if_neg (show ¬ (false = true) by decide)] at H
    obtain ⟨t143, A22, H⟩ := bindA H
    obtain ⟨t144, A23, H⟩ := bindA H
    obtain ⟨t145, A24, H⟩ := bindA H
    obtain rfl := Option.some.inj H
    go_enter Tryz.func76, Tryz.ntmps76
    go_wp2_with (first | (refine gz (f := 105) rfl (some 13) rfl Tryz.func105 (metrolabref01_brief.calls k a0 a1 t128 t129 false _ A3.out) ?_; rintro w' ⟨nd, rfl⟩) | (refine gz (f := 90) rfl (some 23) rfl Tryz.func90 (metrolabref01_size.calls a0 t132 _ A7.out) ?_; rintro w' ⟨nd, rfl⟩) | (refine gz (f := 90) rfl (some 25) rfl Tryz.func90 (metrolabref01_size.calls a1 t133 _ A8.out) ?_; rintro w' ⟨nd, rfl⟩) | (refine gz (f := 92) rfl (some 27) rfl Tryz.func92 (metrolabref01_Below.calls a0 t134 _ A9.out) ?_; rintro w' ⟨nd, rfl⟩) | (refine gz (f := 92) rfl (some 29) rfl Tryz.func92 (metrolabref01_Below.calls a1 t135 _ A10.out) ?_; rintro w' ⟨nd, rfl⟩) | (refine gz (f := 118) rfl (some 39) rfl Tryz.func118 (metrolabref01_less.calls t132 t133 false _ A16.out) ?_; rintro w' ⟨nd, rfl⟩) | (refine gy (f := 117) rfl (some 48) rfl Tryz.func117 (metrolabref01_paper.calls k t132 t133 false t143 _ A22.out) z10_ ?_; clear HB; intro w25 HB) | (refine gz (f := 92) rfl (some 50) rfl Tryz.func92 (metrolabref01_Below.calls a0 t144 _ A23.out) ?_; rintro w' ⟨nd, rfl⟩) | (refine gz (f := 104) rfl (some 51) rfl Tryz.func104 (metrolabref01_signed.calls t143 t144 t145 _ A24.out) ?_; rintro w' ⟨nd, rfl⟩))
    go_ret
    exact ⟨z24_, z10_⟩
def metrolabref01_Minus.f (k : Nat) (a0 : ByteArray) (a1 : ByteArray) : Option (ByteArray) := (metrolabref01_Turned.f a1).bind fun t146 => ((metrolabref01_Plus.f k a0 t146).bind fun t147 => (some t147))
set_option maxHeartbeats 8000000 in
set_option maxRecDepth 100000 in
theorem metrolabref01_Minus.calls (k : Nat) (a0 : ByteArray) (a1 : ByteArray) (r : ByteArray) (w : World) (h : metrolabref01_Minus.f k a0 a1 = some r) :
  Calls Tryz.prog 91 #[.string a0, .string a1] w fun e w' => e = .returned (.string r) ∧ Below w.heap.size w w' := by
 have HB := Aside0.mk (Below.refl w.heap.size w)
 have H : ((metrolabref01_Turned.f a1).bind fun t146 => ((metrolabref01_Plus.f k a0 t146).bind fun t147 => (some t147))) = some r := h
 clear h
 obtain ⟨t146, A3, H⟩ := bindA H
 obtain ⟨t147, A4, H⟩ := bindA H
 obtain rfl := Option.some.inj H
 go_enter Tryz.func91, Tryz.ntmps91
 go_wp2_with (first | (refine gz (f := 129) rfl (some 7) rfl Tryz.func129 (metrolabref01_Turned.calls a1 t146 _ A3.out) ?_; rintro w' ⟨nd, rfl⟩) | (refine gy (f := 76) rfl (some 8) rfl Tryz.func76 (metrolabref01_Plus.calls k a0 t146 t147 _ A4.out) z10_ ?_; clear HB; intro w5 HB))
 go_ret
 exact ⟨z24_, z10_⟩
mutual
def metrolabref01_product.l0 : Nat → ByteArray → ByteArray → List Int → Int → Option (ByteArray)
 | 0, _, _, _, _ => none
 | k + 1, x0, x1, x5, x6 => if x6 < (x0.size : Int) then (metrolabref01_product.l1 k x0 x1 x5 x6 0) else (if 0 ≤ (x5.length : Int) then (if ((x5.length : Int) : Int).toNat ≤ 281474976710656 then (metrolabref01_product.l2 k x5 (List.replicate ((x5.length : Int) : Int).toNat 0) 0 (wrap64 ((x5.length : Int) - 1))) else (none)) else (none))
def metrolabref01_product.l1 : Nat → ByteArray → ByteArray → List Int → Int → Int → Option (ByteArray)
 | 0, _, _, _, _, _ => none
 | k + 1, x0, x1, x5, x6, x7 => if x7 < (x1.size : Int) then (if 0 ≤ (wrap64 ((wrap64 (x6 + x7)) + 1)) then (if (wrap64 ((wrap64 (x6 + x7)) + 1)) < (x5.length : Int) then (if 0 ≤ x6 then (if x6 < (x0.size : Int) then (if 0 ≤ x7 then (metrolabref01_product.l1 k x0 x1 (x5.set ((wrap64 ((wrap64 (x6 + x7)) + 1)) : Int).toNat (wrap64 ((rd x5 (wrap64 ((wrap64 (x6 + x7)) + 1))) + (wrap64 ((((bt x0 x6) - 48) % 256) * (((bt x1 x7) - 48) % 256)))))) x6 (wrap64 (x7 + 1))) else (none)) else (none)) else (none)) else (none)) else (none)) else (metrolabref01_product.l0 k x0 x1 x5 (wrap64 (x6 + 1)))
def metrolabref01_product.l2 : Nat → List Int → List Int → Int → Int → Option (ByteArray)
 | 0, _, _, _, _ => none
 | k + 1, x5, x8, x9, x10 => if x10 ≥ 0 then (if 0 ≤ x10 then (if x10 < (x5.length : Int) then (if x10 < (x8.length : Int) then (metrolabref01_product.l2 k x5 (x8.set (x10 : Int).toNat ((wrap64 (48 + (Int.tmod (wrap64 (x9 + (rd x5 x10))) 10))) % 256)) (wrap64 (Int.tdiv (wrap64 (x9 + (rd x5 x10))) 10)) (wrap64 (x10 - 1))) else (none)) else (none)) else (none)) else ((metrolabref01_bare.f k (strOfNums x8)).bind fun t158 => (some t158))
end
def metrolabref01_product.f (k : Nat) (a0 : ByteArray) (a1 : ByteArray) : Option (ByteArray) := if 0 ≤ (wrap64 ((a0.size : Int) + (a1.size : Int))) then (if (wrap64 ((a0.size : Int) + (a1.size : Int)) : Int).toNat ≤ 35184372088832 then (metrolabref01_product.l0 k a0 a1 (List.replicate (wrap64 ((a0.size : Int) + (a1.size : Int)) : Int).toNat 0) 0) else (none)) else (none)
def metrolabref01_product.T8 : Bool × List (List Nat × List Nat) := (true, [([], []), ([], []), ([], []), ([1, 2], [1, 2]), ([3], [3]), ([0, 4], [0, 4]), ([5], [5]), ([], []), ([], []), ([7, 8], [7, 8]), ([9], [9]), ([10], [10]), ([], []), ([], []), ([12, 13], [12, 13]), ([14], [14]), ([15], [15]), ([11, 16], [11, 16]), ([6, 17], [6, 17]), ([0, 4, 0, 1, 2, 3, 4, 5, 6, 7, 8, 9, 10, 11, 12, 13, 14, 15, 16, 17, 18], [0, 4]), ([19, 18, 0, 1, 2, 3, 4, 5, 6, 7, 8, 9, 10, 11, 12, 13, 14, 15, 16, 17, 18], [18, 19])])
def metrolabref01_product.B8 : List Nat := [0, 0, 0, 6, 14, 31, 63, 0, 0, 384, 896, 1920, 0, 0, 12288, 28672, 61440, 130944, 262143, 524287, 1048575]
theorem metrolabref01_product.tab8 : rtab .any (opsOf Tryz.f135 8) = metrolabref01_product.T8 := by kernel_rfl
theorem metrolabref01_product.bits8 : waitsOk metrolabref01_product.T8.2 metrolabref01_product.B8 = true := by kernel_rfl
set_option maxHeartbeats 8000000 in
set_option maxRecDepth 100000 in
theorem metrolabref01_product.calls (k : Nat) (a0 : ByteArray) (a1 : ByteArray) (r : ByteArray) (w : World) (h : metrolabref01_product.f k a0 a1 = some r) :
  Calls Tryz.prog 135 #[.string a0, .string a1] w fun e w' => e = .returned (.string r) ∧ Below w.heap.size w w' := by
 have HB := Aside0.mk (Below.refl w.heap.size w)
 have H : (if 0 ≤ (wrap64 ((a0.size : Int) + (a1.size : Int))) then (if (wrap64 ((a0.size : Int) + (a1.size : Int)) : Int).toNat ≤ 35184372088832 then (metrolabref01_product.l0 k a0 a1 (List.replicate (wrap64 ((a0.size : Int) + (a1.size : Int)) : Int).toNat 0) 0) else (none)) else (none)) = some r := h
 clear h
 obtain ⟨ji3, hji3⟩ : ∃ j_ : Int, (wrap64 ((a0.size : Int) + (a1.size : Int))) = j_ := ⟨_, rfl⟩
 replace H : (if 0 ≤ (ji3) then (if (ji3 : Int).toNat ≤ 35184372088832 then (metrolabref01_product.l0 k a0 a1 (List.replicate (ji3 : Int).toNat 0) 0) else (none)) else (none)) = some r := by first | (rw [hji3] at H; exact H) | (simp only [hji3] at H ⊢; exact H)
 have hji3w : (IntKind.i64.wrap ((a0.size : Int) + (a1.size : Int))) = ji3 := (i64_w _).trans hji3
 by_cases c4 : 0 ≤ (ji3)
 ·rw [if_pos c4] at H
  have c4b0 := eq_true c4
  have c4b1 : decide (0 ≤ (ji3)) = true := decide_eq_true c4
  clear c4
  by_cases c5 : (ji3 : Int).toNat ≤ 35184372088832
  ·rw [if_pos c5] at H
   have c5b0 := eq_true c5
   have c5b1 : decide ((ji3 : Int).toNat ≤ 35184372088832) = true := decide_eq_true c5
   clear c5
   obtain ⟨y148, hy148⟩ : ∃ y_ : List Int, y_ = (List.replicate (ji3 : Int).toNat 0) := ⟨_, rfl⟩
   replace H : (metrolabref01_product.l0 k a0 a1 y148 0) = some r := by first | (rw [hy148]; with_reducible exact H) | (have H2_ := (Option.bind_some _ _).symm.trans H; rw [hy148]; with_reducible exact H2_) | (have H2_ := (Option.bind_some _ _).symm.trans H; with_reducible exact H2_) | with_reducible exact H | (rw [hy148]; exact H) | exact H
   have Ny148 := Aside0.mk hy148
   clear hy148
   have H' := Aside0.mk H
   clear H
   go_enter Tryz.func135, Tryz.ntmps135
   go_wp2_with (first | ((with_reducible refine gate_dst (N := 16) rfl ?_); refine Kd.R_make (Kd.int .i64) _ 3 rfl (N := 16) rfl 157 _ _ rfl ji3 rfl rfl Tryz.underlying157 (.int .i64 0) 8 info3 rfl (by decide) (by omega) 0 (ok := fun _ => True) (okp := fun _ => True) rfl (fun _ hk => hk) trivial (of_decide_eq_true z26_) (Nat.le_trans (Nat.mul_le_mul_right _ (of_decide_eq_true z26_ : ji3.toNat ≤ 35184372088832)) (by omega)) (Below.refl _ _) (Nat.le_refl _) ?_; intro v149 w6 ho7 hb hg_ hnew_; clear hg_ hnew_; (first | rw [← Ny148.out] at ho7 | (simp only [Int.reduceToNat] at ho7; rw [← Ny148.out] at ho7)); have n0_ := Aside0.mk (Kd.R_lower ho7 (below_size z10_)); have n1_ := Aside0.mk (below_step z10_ hb); clear HB; have HO150 := n0_; have HB := n1_; clear n0_ n1_; clear hb ho7))
   go_loopg [6] k (fun kq v6 w' => ∃ (x5_1 : List Int) (x6_1 : Int), v6 = .int .i64 x6_1 ∧ Aside0 (metrolabref01_product.l0 kq a0 a1 x5_1 x6_1 = some r) ∧ Aside0 (kq ≤ k) ∧ Aside0 (Kd.R (Kd.int .i64) 3 w' w.heap.size (fun _ => True) v149 x5_1) ∧ Aside0 (Below w.heap.size w w'))
   case atStart => exact ⟨(y148), (0), z25_, H', ⟨Nat.le_refl _⟩, ⟨by (with_reducible repeat (first | apply Kd.R_alloc | apply Kd.R_drewN | apply Kd.R_drew)); first | exact HO150.out | (simp only [w64_m256]; exact HO150.out)⟩, ⟨by repeat (first | (with_reducible first | exact HB.out | apply below_alloc | apply pw_below_drewN | apply below_drew1) | exact HB.out)⟩⟩
   case round =>
    clear H'
    try clear c1
    try clear p2
    try clear c4
    try clear c4b0
    try clear c4b1
    try clear c5
    try clear c5b0
    try clear c5b1
    try clear p6
    obtain ⟨x5_1, x6_1, rfl, HA, HK1, HO_5, HB⟩ := hrel
    cases gk with
    | zero => exact absurd HA.out (by simp [metrolabref01_product.l0])
    | succ k1 =>
     have H := HA.out
     clear HA
     simp only [metrolabref01_product.l0] at H
     by_cases c8 : x6_1 < (a0.size : Int)
     ·rw [if_pos c8] at H
      have c8b0 : decide (x6_1 < (a0.size : Int)) = true := decide_eq_true c8
      clear c8
      have H' := Aside0.mk H
      clear H
      go_wp2
      go_loopg [7] k1 (fun kq v7 w' => ∃ (x5_2 : List Int) (x7_2 : Int), v7 = .int .i64 x7_2 ∧ Aside0 (metrolabref01_product.l1 kq a0 a1 x5_2 x6_1 x7_2 = some r) ∧ Aside0 (kq ≤ k1) ∧ Aside0 (Kd.R (Kd.int .i64) 3 w' w.heap.size (fun _ => True) v149 x5_2) ∧ Aside0 (Below w.heap.size w w'))
      case atStart => exact ⟨(x5_1), (0), z25_, H', ⟨Nat.le_refl _⟩, ⟨by (with_reducible repeat (first | apply Kd.R_alloc | apply Kd.R_drewN | apply Kd.R_drew)); first | exact HO_5.out | (simp only [w64_m256]; exact HO_5.out)⟩, ⟨by repeat (first | (with_reducible first | exact HB.out | apply below_alloc | apply pw_below_drewN | apply below_drew1) | exact HB.out)⟩⟩
      case round =>
       clear H'
       try clear c1
       try clear p2
       try clear c4
       try clear c4b0
       try clear c4b1
       try clear c5
       try clear c5b0
       try clear c5b1
       try clear p6
       try clear c8
       try clear c8b0
       try clear p2
       try clear p6
       obtain ⟨x5_2, x7_2, rfl, HA, HK2, HO_5, HB⟩ := hrel
       cases gk with
       | zero => exact absurd HA.out (by simp [metrolabref01_product.l1])
       | succ k2 =>
        have H := HA.out
        clear HA
        simp only [metrolabref01_product.l1] at H
        by_cases c9 : x7_2 < (a1.size : Int)
        ·rw [if_pos c9] at H
         have c9b0 : decide (x7_2 < (a1.size : Int)) = true := decide_eq_true c9
         clear c9
         obtain ⟨ji10, hji10⟩ : ∃ j_ : Int, (wrap64 ((wrap64 (x6_1 + x7_2)) + 1)) = j_ := ⟨_, rfl⟩
         replace H : (if 0 ≤ (ji10) then (if (ji10) < (x5_2.length : Int) then (if 0 ≤ x6_1 then (if x6_1 < (a0.size : Int) then (if 0 ≤ x7_2 then (metrolabref01_product.l1 k2 a0 a1 (x5_2.set ((ji10) : Int).toNat (wrap64 ((rd x5_2 (ji10)) + (wrap64 ((((bt a0 x6_1) - 48) % 256) * (((bt a1 x7_2) - 48) % 256)))))) x6_1 (wrap64 (x7_2 + 1))) else (none)) else (none)) else (none)) else (none)) else (none)) = some r := by first | (rw [hji10] at H; exact H) | (simp only [hji10] at H ⊢; exact H)
         have hji10w : (IntKind.i64.wrap ((wrap64 (x6_1 + x7_2)) + 1)) = ji10 := (i64_w _).trans hji10
         by_cases c11 : 0 ≤ (ji10)
         ·rw [if_pos c11] at H
          have c11b0 : decide (0 ≤ (ji10)) = true := decide_eq_true c11
          clear c11
          by_cases c12 : (ji10) < (x5_2.length : Int)
          ·rw [if_pos c12] at H
           have c12b0 : decide ((ji10) < (x5_2.length : Int)) = true := decide_eq_true c12
           clear c12
           by_cases c13 : 0 ≤ x6_1
           ·rw [if_pos c13] at H
            have c13b0 : decide (0 ≤ x6_1) = true := decide_eq_true c13
            clear c13
            by_cases c14 : x6_1 < (a0.size : Int)
            ·rw [if_pos c14] at H
             have c14b0 : decide (x6_1 < (a0.size : Int)) = true := decide_eq_true c14
             clear c14
             by_cases c16 : 0 ≤ x7_2
             ·rw [if_pos c16] at H
              have c16b0 : decide (0 ≤ x7_2) = true := decide_eq_true c16
              clear c16
              obtain ⟨y152, hy152⟩ : ∃ y_ : List Int, y_ = (x5_2.set ((ji10) : Int).toNat (wrap64 ((rd x5_2 (ji10)) + (wrap64 ((((bt a0 x6_1) - 48) % 256) * (((bt a1 x7_2) - 48) % 256)))))) := ⟨_, rfl⟩
              replace H : (metrolabref01_product.l1 k2 a0 a1 y152 x6_1 (wrap64 (x7_2 + 1))) = some r := by first | (rw [hy152]; with_reducible exact H) | (have H2_ := (Option.bind_some _ _).symm.trans H; rw [hy152]; with_reducible exact H2_) | (have H2_ := (Option.bind_some _ _).symm.trans H; with_reducible exact H2_) | with_reducible exact H | (rw [hy152]; exact H) | exact H
              have Ny152 := Aside0.mk hy152
              clear hy152
              have H' := Aside0.mk H
              clear H
              try go_wp2
              have n0_ := Aside0.mk (Kd.R_drew HO_5.out)
              have n1_ := Aside0.mk (below_drew1 HB.out)
              clear HO_5
              clear HB
              have HO_5 := n0_
              have HB := n1_
              clear n0_ n1_
              obtain ⟨Ao20, co20, eo20⟩ := Kd.R_slice HO_5.out
              (first | subst eo20 | (injection eo20 with f1_ f2_ f3_; have f4_ := f1_.symm; have f5_ := f3_.symm; clear f1_ f2_ f3_; subst f4_; subst f5_))
              have p151 : 0 ≤ ((ji10) : Int) := of_decide_eq_true z26_
              have q151 : (ji10) < (x5_2.length : Int) := of_decide_eq_true z26_
              obtain ⟨ad151, e151, hx151_0⟩ := Kd.at_int (Kd.R_reads' HO_5.out).2.2 (ji10) p151 q151
              cases e151
              replace p151 := eq_true p151
              replace q151 := eq_true q151
              have p15 : 0 ≤ (x6_1 : Int) := of_decide_eq_true z26_
              have q15 : x6_1 < (a0.size : Int) := of_decide_eq_true z26_
              have hx15 := bt_at a0 x6_1
              replace p15 := eq_true p15
              replace q15 := eq_true q15
              have p17 : 0 ≤ (x7_2 : Int) := of_decide_eq_true z26_
              have q17 : x7_2 < (a1.size : Int) := of_decide_eq_true z26_
              have hx17 := bt_at a1 x7_2
              replace p17 := eq_true p17
              replace q17 := eq_true q17
              have p18 : 0 ≤ ((ji10) : Int) := of_decide_eq_true z26_
              have q18 : ((ji10) : Int) < ((x5_2.length : Int) : Int) := of_decide_eq_true z26_
              obtain ⟨go18, co18, eo18, gb18, gl18, cl18, HG18⟩ := Kd.R_form HO_5.out (by omega)
              (first | cases eo18 | (injection eo18 with ea_ en_ ec_; (first | subst ea_ | (injection ea_ with ea_; subst ea_)); subst ec_; clear en_))
              have GB18 := Aside0.mk gb18
              have GG18 := Aside0.mk HG18
              clear gb18 gl18 HG18
              (first | simp only [add_plain] at hx151_0 | skip)
              obtain ⟨hx18_0, hf18_0⟩ := Kd.R_celln 0 HO_5.out ((ji10) : Int) p18 q18
              replace p18 := eq_true p18
              replace q18 := eq_true q18
              have HP21 := Kd.R_putn HO_5.out ((ji10) : Int) (wrap64 ((rd x5_2 (ji10)) + (wrap64 ((((bt a0 x6_1) - 48) % 256) * (((bt a1 x7_2) - 48) % 256)))))
              rw [← Ny152.out] at HP21
              have HQ21 := Aside0.mk HP21
              clear HP21
              refine start_ (n := 21) (S := fun w' => w'.cell? ⟨go18, ((ji10)).toNat, none⟩ = some (.int .i64 (rd x5_2 (ji10)))) (ds := [20]) #[false, false, false, false, false, false, false, false, false, false, false, false, false, false, false, false, false, false, false, false, false] (by kernel_rfl) rfl rfl (hx151_0) (fun hHeld => ?_); refine with_tabW metrolabref01_product.tab8 metrolabref01_product.bits8 (fun HT_ HW_ => ?_)
              generalize wr.drew = w19 at HO_5 HB GG18 HQ21 hf18_0 hx151_0 hx18_0 hHeld ⊢
              refine pure_ (i := 0) (N := some 29) (v := ?_) (a' := ?_) #[true, false, false, false, false, false, false, false, false, false, false, false, false, false, false, false, false, false, false, false, false] rfl rfl (any_of HT_.out (by kernel_rfl)) (fun _ _ _ h => h) (Or.inl ⟨by rfl, ?_⟩) ?_ ?_
              rotate_left
              ·intro w'
               go_simp
               with_reducible rfl
              rotate_left
              ·simp only [Act.put, List.setIfInBounds_toArray, List.set_cons_zero, List.set_cons_succ, i64_w, i32_w]
               rfl
              refine pure_ (i := 1) (N := some 30) (v := ?_) (a' := ?_) #[true, true, false, false, false, false, false, false, false, false, false, false, false, false, false, false, false, false, false, false, false] rfl rfl (any_of HT_.out (by kernel_rfl)) (fun _ _ _ h => h) (Or.inl ⟨by rfl, ?_⟩) ?_ ?_
              rotate_left
              ·intro w'
               go_simp
               with_reducible rfl
              rotate_left
              ·simp only [Act.put, List.setIfInBounds_toArray, List.set_cons_zero, List.set_cons_succ, i64_w, i32_w]
               rfl
              refine pure_ (i := 2) (N := some 31) (v := ?_) (a' := ?_) #[true, true, true, false, false, false, false, false, false, false, false, false, false, false, false, false, false, false, false, false, false] rfl rfl (any_of HT_.out (by kernel_rfl)) (fun _ _ _ h => h) (Or.inl ⟨by rfl, ?_⟩) ?_ ?_
              rotate_left
              ·intro w'
               go_simp
               with_reducible rfl
              rotate_left
              ·simp only [Act.put, List.setIfInBounds_toArray, List.set_cons_zero, List.set_cons_succ, i64_w, i32_w]
               rfl
              refine pure_ (i := 3) (N := some 32) (v := ?_) (a' := ?_) #[true, true, true, true, false, false, false, false, false, false, false, false, false, false, false, false, false, false, false, false, false] rfl rfl (any_of HT_.out (by kernel_rfl)) (fun _ _ _ h => h) (Or.inl ⟨by rfl, ?_⟩) ?_ ?_
              rotate_left
              ·intro w'
               go_simp
               with_reducible rfl
              rotate_left
              ·simp only [Act.put, List.setIfInBounds_toArray, List.set_cons_zero, List.set_cons_succ, i64_w, i32_w]
               rfl
              refine pure_ (i := 4) (N := some 33) (v := ?_) (a' := ?_) #[true, true, true, true, true, false, false, false, false, false, false, false, false, false, false, false, false, false, false, false, false] rfl rfl (any_of HT_.out (by kernel_rfl)) (fun _ _ _ h => h) (Or.inl ⟨by rfl, ?_⟩) ?_ ?_
              rotate_left
              ·intro w'
               go_simp
               with_reducible rfl
              rotate_left
              ·simp only [Act.put, List.setIfInBounds_toArray, List.set_cons_zero, List.set_cons_succ, i64_w, i32_w]
               rfl
              refine pure_ (i := 5) (N := some 34) (v := ?_) (a' := ?_) #[true, true, true, true, true, true, false, false, false, false, false, false, false, false, false, false, false, false, false, false, false] rfl rfl (any_of HT_.out (by kernel_rfl)) (fun _ _ _ h => h) (Or.inl ⟨by rfl, ?_⟩) ?_ ?_
              rotate_left
              ·intro w'
               go_simp
               with_reducible rfl
              rotate_left
              ·simp only [Act.put, List.setIfInBounds_toArray, List.set_cons_zero, List.set_cons_succ, i64_w, i32_w]
               rfl
              refine pure_ (i := 7) (N := some 36) (v := ?_) (a' := ?_) #[true, true, true, true, true, true, false, true, false, false, false, false, false, false, false, false, false, false, false, false, false] rfl rfl (any_of HT_.out (by kernel_rfl)) (fun _ _ _ h => h) (Or.inl ⟨by rfl, ?_⟩) ?_ ?_
              rotate_left
              ·intro w'
               go_simp
               with_reducible rfl
              rotate_left
              ·simp only [Act.put, List.setIfInBounds_toArray, List.set_cons_zero, List.set_cons_succ, i64_w, i32_w]
               rfl
              refine pure_ (i := 8) (N := some 37) (v := ?_) (a' := ?_) #[true, true, true, true, true, true, false, true, true, false, false, false, false, false, false, false, false, false, false, false, false] rfl rfl (any_of HT_.out (by kernel_rfl)) (fun _ _ _ h => h) (Or.inl ⟨by rfl, ?_⟩) ?_ ?_
              rotate_left
              ·intro w'
               go_simp
               with_reducible rfl
              rotate_left
              ·simp only [Act.put, List.setIfInBounds_toArray, List.set_cons_zero, List.set_cons_succ, i64_w, i32_w]
               rfl
              refine pure_ (i := 12) (N := some 41) (v := ?_) (a' := ?_) #[true, true, true, true, true, true, false, true, true, false, false, false, true, false, false, false, false, false, false, false, false] rfl rfl (any_of HT_.out (by kernel_rfl)) (fun _ _ _ h => h) (Or.inl ⟨by rfl, ?_⟩) ?_ ?_
              rotate_left
              ·intro w'
               go_simp
               with_reducible rfl
              rotate_left
              ·simp only [Act.put, List.setIfInBounds_toArray, List.set_cons_zero, List.set_cons_succ, i64_w, i32_w]
               rfl
              refine pure_ (i := 13) (N := some 42) (v := ?_) (a' := ?_) #[true, true, true, true, true, true, false, true, true, false, false, false, true, true, false, false, false, false, false, false, false] rfl rfl (any_of HT_.out (by kernel_rfl)) (fun _ _ _ h => h) (Or.inl ⟨by rfl, ?_⟩) ?_ ?_
              rotate_left
              ·intro w'
               go_simp
               with_reducible rfl
              rotate_left
              ·simp only [Act.put, List.setIfInBounds_toArray, List.set_cons_zero, List.set_cons_succ, i64_w, i32_w]
               rfl
              refine take_ (i := 6) (N := some 35) (v := ?_) (a' := ?_) #[true, true, true, true, true, true, true, true, true, false, false, false, true, true, false, false, false, false, false, false, false] rfl rfl (take_ofW HT_.out HW_.out (by kernel_rfl)) (fun _ _ _ h => h) (Or.inl ⟨by rfl, ?_⟩) hHeld ?_ ?_
              rotate_left
              ·intro w' s0
               go_simp
               with_reducible rfl
              rotate_left
              ·simp only [Act.put, List.setIfInBounds_toArray, List.set_cons_zero, List.set_cons_succ, i64_w, i32_w]
               rfl
              refine take_ (i := 9) (N := some 38) (v := ?_) (a' := ?_) #[true, true, true, true, true, true, true, true, true, true, false, false, true, true, false, false, false, false, false, false, false] rfl rfl (take_ofW HT_.out HW_.out (by kernel_rfl)) (fun _ _ _ h => h) (Or.inl ⟨by rfl, ?_⟩) hHeld ?_ ?_
              rotate_left
              ·intro w' s0
               go_simp
               with_reducible rfl
              rotate_left
              ·simp only [Act.put, List.setIfInBounds_toArray, List.set_cons_zero, List.set_cons_succ, i64_w, i32_w]
               rfl
              refine pure_ (i := 10) (N := some 39) (v := ?_) (a' := ?_) #[true, true, true, true, true, true, true, true, true, true, true, false, true, true, false, false, false, false, false, false, false] rfl rfl (any_of HT_.out (by kernel_rfl)) (fun _ _ _ h => h) (Or.inl ⟨by rfl, ?_⟩) ?_ ?_
              rotate_left
              ·intro w'
               go_simp
               with_reducible rfl
              rotate_left
              ·simp only [Act.put, List.setIfInBounds_toArray, List.set_cons_zero, List.set_cons_succ, i64_w, i32_w]
               rfl
              refine pure_ (i := 11) (N := some 40) (v := ?_) (a' := ?_) #[true, true, true, true, true, true, true, true, true, true, true, true, true, true, false, false, false, false, false, false, false] rfl rfl (any_of HT_.out (by kernel_rfl)) (fun _ _ _ h => h) (Or.inl ⟨by rfl, ?_⟩) ?_ ?_
              rotate_left
              ·intro w'
               go_simp
               with_reducible rfl
              rotate_left
              ·simp only [Act.put, List.setIfInBounds_toArray, List.set_cons_zero, List.set_cons_succ, i64_w, i32_w]
               rfl
              refine take_ (i := 14) (N := some 43) (v := ?_) (a' := ?_) #[true, true, true, true, true, true, true, true, true, true, true, true, true, true, true, false, false, false, false, false, false] rfl rfl (take_ofW HT_.out HW_.out (by kernel_rfl)) (fun _ _ _ h => h) (Or.inl ⟨by rfl, ?_⟩) hHeld ?_ ?_
              rotate_left
              ·intro w' s0
               go_simp
               with_reducible rfl
              rotate_left
              ·simp only [Act.put, List.setIfInBounds_toArray, List.set_cons_zero, List.set_cons_succ, i64_w, i32_w]
               rfl
              refine pure_ (i := 15) (N := some 44) (v := ?_) (a' := ?_) #[true, true, true, true, true, true, true, true, true, true, true, true, true, true, true, true, false, false, false, false, false] rfl rfl (any_of HT_.out (by kernel_rfl)) (fun _ _ _ h => h) (Or.inl ⟨by rfl, ?_⟩) ?_ ?_
              rotate_left
              ·intro w'
               go_simp
               with_reducible rfl
              rotate_left
              ·simp only [Act.put, List.setIfInBounds_toArray, List.set_cons_zero, List.set_cons_succ, i64_w, i32_w]
               rfl
              refine pure_ (i := 16) (N := some 45) (v := ?_) (a' := ?_) #[true, true, true, true, true, true, true, true, true, true, true, true, true, true, true, true, true, false, false, false, false] rfl rfl (any_of HT_.out (by kernel_rfl)) (fun _ _ _ h => h) (Or.inl ⟨by rfl, ?_⟩) ?_ ?_
              rotate_left
              ·intro w'
               go_simp
               with_reducible rfl
              rotate_left
              ·simp only [Act.put, List.setIfInBounds_toArray, List.set_cons_zero, List.set_cons_succ, i64_w, i32_w]
               rfl
              refine pure_ (i := 17) (N := some 46) (v := ?_) (a' := ?_) #[true, true, true, true, true, true, true, true, true, true, true, true, true, true, true, true, true, true, false, false, false] rfl rfl (any_of HT_.out (by kernel_rfl)) (fun _ _ _ h => h) (Or.inl ⟨by rfl, ?_⟩) ?_ ?_
              rotate_left
              ·intro w'
               go_simp
               with_reducible rfl
              rotate_left
              ·simp only [Act.put, List.setIfInBounds_toArray, List.set_cons_zero, List.set_cons_succ, i64_w, i32_w]
               rfl
              refine pure_ (i := 18) (N := some 47) (v := ?_) (a' := ?_) #[true, true, true, true, true, true, true, true, true, true, true, true, true, true, true, true, true, true, true, false, false] rfl rfl (any_of HT_.out (by kernel_rfl)) (fun _ _ _ h => h) (Or.inl ⟨by rfl, ?_⟩) ?_ ?_
              rotate_left
              ·intro w'
               go_simp
               with_reducible rfl
              rotate_left
              ·simp only [Act.put, List.setIfInBounds_toArray, List.set_cons_zero, List.set_cons_succ, i64_w, i32_w]
               rfl
              refine pure_ (i := 19) (N := some 48) (v := ?_) (a' := ?_) #[true, true, true, true, true, true, true, true, true, true, true, true, true, true, true, true, true, true, true, true, false] rfl rfl (any_of HT_.out (by kernel_rfl)) (fun _ _ _ h => h) (Or.inl ⟨by rfl, ?_⟩) ?_ ?_
              rotate_left
              ·intro w'
               go_simp
               with_reducible rfl
              rotate_left
              ·simp only [Act.put, List.setIfInBounds_toArray, List.set_cons_zero, List.set_cons_succ, i64_w, i32_w]
               rfl
              refine last_ (i := 20) (N := none) #[true, true, true, true, true, true, true, true, true, true, true, true, true, true, true, true, true, true, true, true, true] rfl rfl (one_of HT_.out (by kernel_rfl)) (by decide) (fun K hK => ?_)
              refine skip_ (w1 := ?_) (by rfl) rfl ?_ ?_
              rotate_left
              ·go_simp
               rfl
              refine hK.out _ _ ?_
              clear hK K
              refine done_ (done_of HT_.out (by kernel_rfl)) ?_
              try go_wp2
              go_roundg k2
              case measure => have := HK1.out; have := HK2.out; omega
              case rel => exact ⟨(y152), (wrap64 (x7_2 + 1)), z25_, H', ⟨by have := HK1.out; have := HK2.out; omega⟩, ⟨by (with_reducible repeat (first | apply Kd.R_alloc | apply Kd.R_drewN | apply Kd.R_drew)); first | exact HQ21.out | (simp only [w64_m256]; exact HQ21.out)⟩, ⟨by repeat (first | (with_reducible first | exact HB.out | apply below_alloc | apply pw_below_drewN | apply below_drew1 | refine Go.Proofs.YtkdpcgmnkifbbaaGreatDoorW.PrintWords.below_set ?_ GB18.out) | exact HB.out)⟩⟩
             ·rw [if_neg c16] at H
              exact absurd H (by simp)
            ·rw [if_neg c14] at H
             exact absurd H (by simp)
           ·rw [if_neg c13] at H
            exact absurd H (by simp)
          ·rw [if_neg c12] at H
           exact absurd H (by simp)
         ·rw [if_neg c11] at H
          exact absurd H (by simp)
        ·rw [if_neg c9] at H
         have c9b0 : decide (x7_2 < (a1.size : Int)) = false := decide_eq_false c9
         clear c9
         have H' := Aside0.mk H
         clear H
         go_wp2
         go_roundg k2
         case measure => have := HK1.out; have := HK2.out; omega
         case rel => exact ⟨(x5_2), (wrap64 (x6_1 + 1)), z25_, H', ⟨by have := HK1.out; have := HK2.out; omega⟩, ⟨by (with_reducible repeat (first | apply Kd.R_alloc | apply Kd.R_drewN | apply Kd.R_drew)); first | exact HO_5.out | (simp only [w64_m256]; exact HO_5.out)⟩, ⟨by repeat (first | (with_reducible first | exact HB.out | apply below_alloc | apply pw_below_drewN | apply below_drew1) | exact HB.out)⟩⟩
     ·rw [if_neg c8] at H
      have c8b0 : decide (x6_1 < (a0.size : Int)) = false := decide_eq_false c8
      clear c8
      by_cases c22 : 0 ≤ (x5_1.length : Int)
      ·rw [if_pos c22] at H
       have c22b0 := eq_true c22
       have c22b1 : decide (0 ≤ (x5_1.length : Int)) = true := decide_eq_true c22
       clear c22
       by_cases c23 : ((x5_1.length : Int) : Int).toNat ≤ 281474976710656
       ·rw [if_pos c23] at H
        have c23b0 := eq_true c23
        have c23b1 : decide (((x5_1.length : Int) : Int).toNat ≤ 281474976710656) = true := decide_eq_true c23
        clear c23
        obtain ⟨y153, hy153⟩ : ∃ y_ : List Int, y_ = (List.replicate ((x5_1.length : Int) : Int).toNat 0) := ⟨_, rfl⟩
        replace H : (metrolabref01_product.l2 k1 x5_1 y153 0 (wrap64 ((x5_1.length : Int) - 1))) = some r := by first | (rw [hy153]; with_reducible exact H) | (have H2_ := (Option.bind_some _ _).symm.trans H; rw [hy153]; with_reducible exact H2_) | (have H2_ := (Option.bind_some _ _).symm.trans H; with_reducible exact H2_) | with_reducible exact H | (rw [hy153]; exact H) | exact H
        have Ny153 := Aside0.mk hy153
        clear hy153
        have H' := Aside0.mk H
        clear H
        obtain ⟨Ao24, co24, eo24⟩ := Kd.R_slice HO_5.out
        subst eo24
        go_wp2_with (first | ((with_reducible refine gate_dst (N := 51) rfl ?_); refine Kd.R_make (Kd.int .u8) _ 5 rfl (N := 51) rfl 161 _ _ rfl (x5_1.length : Int) rfl rfl Tryz.underlying161 (.int .u8 0) 1 info5 rfl (by decide) (by omega) 0 (ok := fun _ => True) (okp := fun _ => True) rfl (fun _ hk => hk) trivial (of_decide_eq_true z26_) (Nat.le_trans (Nat.mul_le_mul_right _ (of_decide_eq_true z26_ : (x5_1.length : Int).toNat ≤ 281474976710656)) (by omega)) (Below.refl _ _) (Nat.le_refl _) ?_; intro v154 w25 ho26 hb hg_ hnew_; clear hg_ hnew_; (first | rw [← Ny153.out] at ho26 | (simp only [Int.reduceToNat] at ho26; rw [← Ny153.out] at ho26)); have n0_ := Aside0.mk (Kd.R_below z20_ hb); have n1_ := Aside0.mk (Kd.R_lower ho26 (below_size z10_)); have n2_ := Aside0.mk (below_step z10_ hb); clear HO_5; clear HB; have HO_5 := n0_; have HO155 := n1_; have HB := n2_; clear n0_ n1_ n2_; clear hb ho26))
        go_loopg [9, 10] k1 (fun kq v9 v10 w' => ∃ (x8_2 : List Int) (x9_2 : Int) (x10_2 : Int), v9 = .int .i64 x9_2 ∧ v10 = .int .i64 x10_2 ∧ Aside0 (metrolabref01_product.l2 kq x5_1 x8_2 x9_2 x10_2 = some r) ∧ Aside0 (kq ≤ k1) ∧ Aside0 (Kd.R (Kd.int .i64) 3 w' w.heap.size (fun _ => True) (.slice Ao24 x5_1.length co24) x5_1) ∧ Aside0 (Kd.R (Kd.int .u8) 5 w' w.heap.size (fun _ => True) v154 x8_2) ∧ Aside0 (Below w.heap.size w w'))
        case atStart => exact ⟨(y153), (0), (wrap64 ((x5_1.length : Int) - 1)), z25_, z25_, H', ⟨Nat.le_refl _⟩, ⟨by (with_reducible repeat (first | apply Kd.R_alloc | apply Kd.R_drewN | apply Kd.R_drew)); first | exact HO_5.out | (simp only [w64_m256]; exact HO_5.out)⟩, ⟨by (with_reducible repeat (first | apply Kd.R_alloc | apply Kd.R_drewN | apply Kd.R_drew)); first | exact HO155.out | (simp only [w64_m256]; exact HO155.out)⟩, ⟨by repeat (first | (with_reducible first | exact HB.out | apply below_alloc | apply pw_below_drewN | apply below_drew1) | exact HB.out)⟩⟩
        case round =>
         clear H'
         try clear c1
         try clear p1
         try clear q1
         try clear hx1
         try clear c2
         try clear p2
         try clear c4
         try clear c4b0
         try clear c4b1
         try clear c5
         try clear c5b0
         try clear c5b1
         try clear p6
         try clear c8
         try clear c8b0
         try clear c9
         try clear c9b0
         try clear c11
         try clear c11b0
         try clear c12
         try clear c12b0
         try clear c13
         try clear c13b0
         try clear c14
         try clear c14b0
         try clear p15
         try clear q15
         try clear hx15
         try clear c16
         try clear c16b0
         try clear p17
         try clear q17
         try clear hx17
         try clear p18
         try clear q18
         try clear hx18
         try clear hf18
         try clear c22
         try clear c22b0
         try clear c22b1
         try clear c23
         try clear c23b0
         try clear c23b1
         try clear hx151_0
         try clear hx18_0
         try clear p15
         try clear p151
         try clear p17
         try clear p18
         try clear p2
         try clear p6
         try clear q15
         try clear q151
         try clear q17
         try clear q18
         obtain ⟨x8_2, x9_2, x10_2, rfl, rfl, HA, HK2, HO_5, HO_8, HB⟩ := hrel
         cases gk with
         | zero => exact absurd HA.out (by simp [metrolabref01_product.l2])
         | succ k2 =>
          have H := HA.out
          clear HA
          simp only [metrolabref01_product.l2] at H
          by_cases c27 : x10_2 ≥ 0
          ·rw [if_pos c27] at H
           have c27b0 : decide (0 ≤ x10_2) = true := decide_eq_true c27
           clear c27
           by_cases c28 : 0 ≤ x10_2
           ·rw [if_pos c28] at H
            have c28b0 : decide (0 ≤ x10_2) = true := decide_eq_true c28
            clear c28
            by_cases c29 : x10_2 < (x5_1.length : Int)
            ·rw [if_pos c29] at H
             have c29b0 : decide (x10_2 < (x5_1.length : Int)) = true := decide_eq_true c29
             clear c29
             by_cases c30 : x10_2 < (x8_2.length : Int)
             ·rw [if_pos c30] at H
              have c30b0 : decide (x10_2 < (x8_2.length : Int)) = true := decide_eq_true c30
              clear c30
              obtain ⟨y157, hy157⟩ : ∃ y_ : List Int, y_ = (x8_2.set (x10_2 : Int).toNat ((wrap64 (48 + (Int.tmod (wrap64 (x9_2 + (rd x5_1 x10_2))) 10))) % 256)) := ⟨_, rfl⟩
              replace H : (metrolabref01_product.l2 k2 x5_1 y157 (wrap64 (Int.tdiv (wrap64 (x9_2 + (rd x5_1 x10_2))) 10)) (wrap64 (x10_2 - 1))) = some r := by first | (rw [hy157]; with_reducible exact H) | (have H2_ := (Option.bind_some _ _).symm.trans H; rw [hy157]; with_reducible exact H2_) | (have H2_ := (Option.bind_some _ _).symm.trans H; with_reducible exact H2_) | with_reducible exact H | (rw [hy157]; exact H) | exact H
              have Ny157 := Aside0.mk hy157
              clear hy157
              have H' := Aside0.mk H
              clear H
              have p156 : 0 ≤ (x10_2 : Int) := of_decide_eq_true z26_
              have q156 : x10_2 < (x5_1.length : Int) := of_decide_eq_true z26_
              obtain ⟨ad156, e156, hx156_0⟩ := Kd.at_int (Kd.R_reads' HO_5.out).2.2 x10_2 p156 q156
              cases e156
              replace p156 := eq_true p156
              replace q156 := eq_true q156
              have p31 : 0 ≤ (x10_2 : Int) := of_decide_eq_true z26_
              have q31 : (x10_2 : Int) < ((x8_2.length : Int) : Int) := of_decide_eq_true z26_
              obtain ⟨go31, co31, eo31, gb31, gl31, cl31, HG31⟩ := Kd.R_form HO_8.out (by omega)
              (first | cases eo31 | (injection eo31 with ea_ en_ ec_; (first | subst ea_ | (injection ea_ with ea_; subst ea_)); subst ec_; clear en_))
              have GB31 := Aside0.mk gb31
              have GG31 := Aside0.mk HG31
              clear gb31 gl31 HG31
              obtain ⟨hx31_0, hf31_0⟩ := Kd.R_celln 0 HO_8.out (x10_2 : Int) p31 q31
              replace p31 := eq_true p31
              replace q31 := eq_true q31
              have HP32 := Kd.R_putg HO_8.out (x10_2 : Int) ((wrap64 (48 + (Int.tmod (wrap64 (x9_2 + (rd x5_1 x10_2))) 10))) % 256)
              go_wp2_with (first | ((with_reducible refine gate_store (t := 5) (p := 71) rfl ?_); refine store_event (t := 5) (p := 71) (v := ?vo_w33) (w1 := (wr.setCell ⟨go31, (x10_2 : Int).toNat, none⟩ (.int .u8 ((wrap64 (48 + (Int.tmod (wrap64 (x9_2 + (rd x5_1 x10_2))) 10))) % 256)))) ?hg ?ho ?hn ?hr ?_; (case ho => rfl); (case hg => rfl); (case hn => rfl); (case hr => first | (go_simp; done) | (go_simp; rfl)); intro w33 hw; have hg : wr.grownBy w33 (some go31) := (by rw [hw]; exact HP32.2); have hp_ : Kd.R (Kd.int .u8) 5 w33 w.heap.size (fun _ => True) (.slice (some ⟨go31, 0, none⟩) x8_2.length co31) y157 := (by rw [hw, Ny157.out]; exact HP32.1); clear HP32; have n0_ := Aside0.mk (Kd.R_over' (v := (.slice (some ⟨go31, 0, none⟩) x8_2.length co31)) z20_ (Kd.R_typed HO_8.out) (by decide) hg); have n1_ := Aside0.mk (hp_); have n2_ := Aside0.mk ((by rw [hw]; exact Go.Proofs.YtkdpcgmnkifbbaaGreatDoorW.PrintWords.below_set (HB.out) GB31.out : Below w.heap.size w w33)); clear HO_5; clear HO_8; clear HB; have HO_5 := n0_; have HO_8 := n1_; have HB := n2_; clear n0_ n1_ n2_; clear hg hw hp_))
              go_roundg k2
              case measure => have := HK1.out; have := HK2.out; omega
              case rel => exact ⟨(y157), (wrap64 (Int.tdiv (wrap64 (x9_2 + (rd x5_1 x10_2))) 10)), (wrap64 (x10_2 - 1)), z25_, z25_, H', ⟨by have := HK1.out; have := HK2.out; omega⟩, ⟨by (with_reducible repeat (first | apply Kd.R_alloc | apply Kd.R_drewN | apply Kd.R_drew)); first | exact HO_5.out | (simp only [w64_m256]; exact HO_5.out)⟩, ⟨by (with_reducible repeat (first | apply Kd.R_alloc | apply Kd.R_drewN | apply Kd.R_drew)); first | exact HO_8.out | (simp only [w64_m256]; exact HO_8.out)⟩, ⟨by repeat (first | (with_reducible first | exact HB.out | apply below_alloc | apply pw_below_drewN | apply below_drew1) | exact HB.out)⟩⟩
             ·rw [if_neg c30] at H
              exact absurd H (by simp)
            ·rw [if_neg c29] at H
             exact absurd H (by simp)
           ·rw [if_neg c28] at H
            exact absurd H (by simp)
          ·rw [if_neg c27] at H
           have c27b0 : decide (0 ≤ x10_2) = false := decide_eq_false c27
           clear c27
           obtain ⟨t158, A34, H⟩ := bindA H
           obtain rfl := Option.some.inj H
           have hcv35 := own_string (P := Tryz.prog) Tryz.underlying161 Tryz.underlying5 Tryz.underlying9 (Kd.own_of_R HO_8.out)
           go_wp2_with (first | (refine gz (f := 141) rfl (some 76) rfl Tryz.func141 (metrolabref01_bare.calls k2 (strOfNums x8_2) t158 _ A34.out) ?_; rintro w' ⟨nd, rfl⟩))
           go_ret
           exact ⟨by first | rfl | (simp [errW_none, errW_some] <;> rfl) | (simp only [← hji3]; first | rfl | (simp [errW_none, errW_some] <;> rfl)) | (simp [*, errW_none, errW_some] <;> rfl), z10_⟩
       ·rw [if_neg c23] at H
        exact absurd H (by simp)
      ·rw [if_neg c22] at H
       exact absurd H (by simp)
  ·rw [if_neg c5] at H
   exact absurd H (by simp)
 ·rw [if_neg c4] at H
  exact absurd H (by simp)
end Go.Proofs.YtkdpcgmnkifbbaaGreatDoor.R
end
section
namespace Go.Proofs.YtkdpcgmnkifbbaaGreatDoor.R
open Go.RowKit Go.Proofs.YtkdpcgmnkifbbaaGreatDoorW.PrintWords Go.Proofs.YtkdpcgmnkifbbaaGreatDoorW.PrintLast Go.Proofs.YtkdpcgmnkifbbaaGreatDoorW.PrintMore
attribute [local go_sem] max2_int min2_int max_two min_two max_three min_three max_four min_four
set_option linter.unusedVariables false
set_option linter.unusedSimpArgs false
def metrolabref01_Times.j0 : Nat → ByteArray → ByteArray → Int → Int → Bool → Option (ByteArray)
 | 0, _, _, _, _, _ => none
 | k + 1, x0, x1, x5, x6, x23 => if x23 = true then ((metrolabref01_Of.f k (wrap64 (x5 * x6))).bind fun t162 => (some t162)) else ((metrolabref01_size.f x0).bind fun t163 => ((metrolabref01_size.f x1).bind fun t164 => ((metrolabref01_product.f k t163 t164).bind fun t165 => ((metrolabref01_Below.f x0).bind fun t166 => ((metrolabref01_Below.f x1).bind fun t167 => ((metrolabref01_signed.f t165 (t166 != t167)).bind fun t168 => (some t168)))))))
def metrolabref01_Times.f (k : Nat) (a0 : ByteArray) (a1 : ByteArray) : Option (ByteArray) := (metrolabref01_brief.f k a0 a1).bind fun bt159 => (if bt159.2.2 = true then (metrolabref01_Times.j0 k a0 a1 bt159.1 bt159.2.1 (decide ((wrap64 ((a0.size : Int) + (a1.size : Int))) ≤ 18))) else (metrolabref01_Times.j0 k a0 a1 bt159.1 bt159.2.1 false))
set_option maxHeartbeats 8000000 in
set_option maxRecDepth 100000 in
theorem metrolabref01_Times.calls (k : Nat) (a0 : ByteArray) (a1 : ByteArray) (r : ByteArray) (w : World) (h : metrolabref01_Times.f k a0 a1 = some r) :
  Calls Tryz.prog 97 #[.string a0, .string a1] w fun e w' => e = .returned (.string r) ∧ Below w.heap.size w w' := by
 have HB := Aside0.mk (Below.refl w.heap.size w)
 have H : ((metrolabref01_brief.f k a0 a1).bind fun bt159 => (if bt159.2.2 = true then (metrolabref01_Times.j0 k a0 a1 bt159.1 bt159.2.1 (decide ((wrap64 ((a0.size : Int) + (a1.size : Int))) ≤ 18))) else (metrolabref01_Times.j0 k a0 a1 bt159.1 bt159.2.1 false))) = some r := h
 clear h
 obtain ⟨⟨t159, t160, t161⟩, A3, H⟩ := bindA H
 dsimp only at H
 have HC4 := Aside0.mk H
 clear H
 go_enter Tryz.func97, Tryz.ntmps97
 go_upto_region 2 with (first | (refine gz (f := 105) rfl (some 11) rfl Tryz.func105 (metrolabref01_brief.calls k a0 a1 t159 t160 t161 _ A3.out) ?_; rintro w' ⟨nd, rfl⟩))
 (try simp only [Act.put, List.setIfInBounds_toArray, List.set_cons_zero, List.set_cons_succ])
 go_cut [23] (fun v23 wc => ∃ (kq : Nat) (x23_3 : Bool), v23 = .bool x23_3 ∧ Aside0 (metrolabref01_Times.j0 kq a0 a1 t159 t160 x23_3 = some r) ∧ Aside0 (kq ≤ k) ∧ Aside0 (Below w.heap.size w wc))
 case first =>
  have H := HC4.out
  clear HC4
  by_cases c5 : t161 = true
  ·subst c5
   rw [if_pos rfl] at H
   have H' := Aside0.mk H
   clear H
   go_wp2
   go_meet
   case rel => exact ⟨_, (decide ((wrap64 ((a0.size : Int) + (a1.size : Int))) ≤ 18)), z25_, H', ⟨by first | omega | exact Nat.le_refl _⟩, ⟨by repeat (first | (with_reducible first | exact HB.out | apply below_alloc | apply pw_below_drewN | apply below_drew1) | exact HB.out)⟩⟩
  ·replace c5 := Bool.eq_false_iff.mpr c5
   subst c5
   rw [if_neg (show ¬ (false = true) by decide)] at H
   have H' := Aside0.mk H
   clear H
   go_wp2
   go_meet
   case rel => exact ⟨_, (false), z25_, H', ⟨by first | omega | exact Nat.le_refl _⟩, ⟨by repeat (first | (with_reducible first | exact HB.out | apply below_alloc | apply pw_below_drewN | apply below_drew1) | exact HB.out)⟩⟩
 case rest =>
  clear HC4
  try clear c1
  try clear p2
  try clear c5
  obtain ⟨kq, x23_3, rfl, HA, HJ3, HB⟩ := hcut
  cases kq with
  | zero => exact absurd HA.out (by simp [metrolabref01_Times.j0])
  | succ kj3 =>
   have H := HA.out
   clear HA
   simp only [metrolabref01_Times.j0] at H
   by_cases c6 : x23_3 = true
   ·subst c6
    rw [if_pos rfl] at H
    obtain ⟨t162, A7, H⟩ := bindA H
    obtain rfl := Option.some.inj H
    go_wp2_with (first | (refine gy (f := 106) rfl (some 27) rfl Tryz.func106 (metrolabref01_Of.calls kj3 (wrap64 (t159 * t160)) t162 _ A7.out) z10_ ?_; clear HB; intro w8 HB))
    go_ret
    exact ⟨z24_, z10_⟩
   ·replace c6 := Bool.eq_false_iff.mpr c6
    subst c6
    rw [if_neg (show ¬ (false = true) by decide)] at H
    obtain ⟨t163, A9, H⟩ := bindA H
    obtain ⟨t164, A10, H⟩ := bindA H
    obtain ⟨t165, A11, H⟩ := bindA H
    obtain ⟨t166, A12, H⟩ := bindA H
    obtain ⟨t167, A13, H⟩ := bindA H
    obtain ⟨t168, A14, H⟩ := bindA H
    obtain rfl := Option.some.inj H
    go_wp2_with (first | (refine gz (f := 90) rfl (some 29) rfl Tryz.func90 (metrolabref01_size.calls a0 t163 _ A9.out) ?_; rintro w' ⟨nd, rfl⟩) | (refine gz (f := 90) rfl (some 31) rfl Tryz.func90 (metrolabref01_size.calls a1 t164 _ A10.out) ?_; rintro w' ⟨nd, rfl⟩) | (refine gy (f := 135) rfl (some 32) rfl Tryz.func135 (metrolabref01_product.calls kj3 t163 t164 t165 _ A11.out) z10_ ?_; clear HB; intro w15 HB) | (refine gz (f := 92) rfl (some 34) rfl Tryz.func92 (metrolabref01_Below.calls a0 t166 _ A12.out) ?_; rintro w' ⟨nd, rfl⟩) | (refine gz (f := 92) rfl (some 36) rfl Tryz.func92 (metrolabref01_Below.calls a1 t167 _ A13.out) ?_; rintro w' ⟨nd, rfl⟩) | (refine gz (f := 104) rfl (some 38) rfl Tryz.func104 (metrolabref01_signed.calls t165 (t166 != t167) t168 _ A14.out) ?_; rintro w' ⟨nd, rfl⟩))
    go_ret
    exact ⟨z24_, z10_⟩
def metrolabref01_Order.f (k : Nat) (a0 : ByteArray) (a1 : ByteArray) : Option (Int) := (metrolabref01_Minus.f k a0 a1).bind fun t169 => (if t169.toList = ([48] : List UInt8) then (some 0) else ((metrolabref01_Below.f t169).bind fun t170 => (if t170 = true then (some (-1)) else (some 1))))
set_option maxHeartbeats 8000000 in
set_option maxRecDepth 100000 in
theorem metrolabref01_Order.calls (k : Nat) (a0 : ByteArray) (a1 : ByteArray) (r : Int) (w : World) (h : metrolabref01_Order.f k a0 a1 = some r) :
  Calls Tryz.prog 52 #[.string a0, .string a1] w fun e w' => e = .returned (.int .i64 r) ∧ Below w.heap.size w w' := by
 have HB := Aside0.mk (Below.refl w.heap.size w)
 have H : ((metrolabref01_Minus.f k a0 a1).bind fun t169 => (if t169.toList = ([48] : List UInt8) then (some 0) else ((metrolabref01_Below.f t169).bind fun t170 => (if t170 = true then (some (-1)) else (some 1))))) = some r := h
 clear h
 obtain ⟨t169, A3, H⟩ := bindA H
 by_cases c4 : t169.toList = ([48] : List UInt8)
 ·rw [if_pos c4] at H
  have c4b0 := beq_iff_eq.mpr c4
  have c4b1 := bne_eq_false_iff_eq.mpr c4
  clear c4
  obtain rfl := Option.some.inj H
  go_enter Tryz.func52, Tryz.ntmps52
  go_wp2_with (first | (refine gy (f := 91) rfl (some 8) rfl Tryz.func91 (metrolabref01_Minus.calls k a0 a1 t169 _ A3.out) z10_ ?_; clear HB; intro w5 HB))
  go_ret
  exact ⟨z24_, z10_⟩
 ·rw [if_neg c4] at H
  have c4b0 := beq_eq_false_iff_ne.mpr c4
  have c4b1 := bne_iff_ne.mpr c4
  obtain ⟨t170, A6, H⟩ := bindA H
  by_cases c7 : t170 = true
  ·subst c7
   rw [if_pos rfl] at H
   obtain rfl := Option.some.inj H
   go_enter Tryz.func52, Tryz.ntmps52
   go_wp2_with (first | (refine gy (f := 91) rfl (some 8) rfl Tryz.func91 (metrolabref01_Minus.calls k a0 a1 t169 _ A3.out) z10_ ?_; clear HB; intro w8 HB) | (refine gz (f := 92) rfl (some 12) rfl Tryz.func92 (metrolabref01_Below.calls t169 true _ A6.out) ?_; rintro w' ⟨nd, rfl⟩))
   go_ret
   exact ⟨z24_, z10_⟩
  ·replace c7 := Bool.eq_false_iff.mpr c7
   subst c7
   rw [if_neg (show ¬ (false = true) by decide)] at H
   obtain rfl := Option.some.inj H
   go_enter Tryz.func52, Tryz.ntmps52
   go_wp2_with (first | (refine gy (f := 91) rfl (some 8) rfl Tryz.func91 (metrolabref01_Minus.calls k a0 a1 t169 _ A3.out) z10_ ?_; clear HB; intro w9 HB) | (refine gz (f := 92) rfl (some 12) rfl Tryz.func92 (metrolabref01_Below.calls t169 false _ A6.out) ?_; rintro w' ⟨nd, rfl⟩))
   go_ret
   exact ⟨z24_, z10_⟩
mutual
def metrolabref01_divided.l0 : Nat → ByteArray → ByteArray → ByteArray → ByteArray → Int → Option (ByteArray × ByteArray)
 | 0, _, _, _, _, _ => none
 | k + 1, x0, x1, x6, x7, x8 => if x8 < (x0.size : Int) then (if 0 ≤ x8 then (if x8 ≤ (wrap64 (x8 + 1)) then (if (wrap64 (x8 + 1)) ≤ (x0.size : Int) then (if x7.size + (x0.extract (x8 : Int).toNat ((wrap64 (x8 + 1)) : Int).toNat).size ≤ 9223372036854775807 then ((metrolabref01_bare.f k (x7 ++ (x0.extract (x8 : Int).toNat ((wrap64 (x8 + 1)) : Int).toNat))).bind fun t172 => (metrolabref01_divided.l1 k x0 x1 x6 t172 x8 48)) else (none)) else (none)) else (none)) else (none)) else ((metrolabref01_bare.f k x6).bind fun t171 => (some (t171, x7)))
def metrolabref01_divided.l1 : Nat → ByteArray → ByteArray → ByteArray → ByteArray → Int → Int → Option (ByteArray × ByteArray)
 | 0, _, _, _, _, _, _ => none
 | k + 1, x0, x1, x6, x7, x8, x9 => (metrolabref01_less.f x7 x1).bind fun t173 => (if t173 = true then ((some (([x9] : List Int) : List Int)).bind fun y174 => (if x6.size + (strOfNums y174).size ≤ 9223372036854775807 then (metrolabref01_divided.l0 k x0 x1 (x6 ++ (strOfNums y174)) x7 (wrap64 (x8 + 1))) else (none))) else ((metrolabref01_paper.f k x7 x1 false).bind fun t177 => (metrolabref01_divided.l1 k x0 x1 x6 t177 x8 ((x9 + 1) % 256))))
end
def metrolabref01_divided.f (k : Nat) (a0 : ByteArray) (a1 : ByteArray) : Option (ByteArray × ByteArray) := metrolabref01_divided.l0 k a0 a1 (⟨#[]⟩ : ByteArray) (⟨#[48]⟩ : ByteArray) 0
set_option maxHeartbeats 8000000 in
set_option maxRecDepth 100000 in
theorem metrolabref01_divided.calls (k : Nat) (a0 : ByteArray) (a1 : ByteArray) (r1 : ByteArray) (r2 : ByteArray) (w : World) (h : metrolabref01_divided.f k a0 a1 = some (r1, r2)) :
  Calls Tryz.prog 107 #[.string a0, .string a1] w fun e w' => e = .returned (.tuple #[.string r1, .string r2]) ∧ Below w.heap.size w w' := by
 have HB := Aside0.mk (Below.refl w.heap.size w)
 have H : (metrolabref01_divided.l0 k a0 a1 (⟨#[]⟩ : ByteArray) (⟨#[48]⟩ : ByteArray) 0) = some (r1, r2) := h
 clear h
 have H' := Aside0.mk H
 clear H
 go_enter Tryz.func107, Tryz.ntmps107
 go_wp2
 go_loopg [6, 7, 8] k (fun kq v6 v7 v8 w' => ∃ (x6_1 : ByteArray) (x7_1 : ByteArray) (x8_1 : Int), v6 = .string x6_1 ∧ v7 = .string x7_1 ∧ v8 = .int .i64 x8_1 ∧ Aside0 (metrolabref01_divided.l0 kq a0 a1 x6_1 x7_1 x8_1 = some (r1, r2)) ∧ Aside0 (kq ≤ k) ∧ Aside0 (Below w.heap.size w w'))
 case atStart => exact ⟨((⟨#[]⟩ : ByteArray)), ((⟨#[48]⟩ : ByteArray)), (0), z25_, z25_, z25_, H', ⟨Nat.le_refl _⟩, ⟨by repeat (first | (with_reducible first | exact HB.out | apply below_alloc | apply pw_below_drewN | apply below_drew1) | exact HB.out)⟩⟩
 case round =>
  clear H'
  try clear c1
  try clear p2
  obtain ⟨x6_1, x7_1, x8_1, rfl, rfl, rfl, HA, HK1, HB⟩ := hrel
  cases gk with
  | zero => exact absurd HA.out (by simp [metrolabref01_divided.l0])
  | succ k1 =>
   have H := HA.out
   clear HA
   simp only [metrolabref01_divided.l0] at H
   by_cases c3 : x8_1 < (a0.size : Int)
   ·rw [if_pos c3] at H
    have c3b0 : decide (x8_1 < (a0.size : Int)) = true := decide_eq_true c3
    clear c3
    by_cases c4 : 0 ≤ x8_1
    ·rw [if_pos c4] at H
     have c4b0 := eq_true c4
     have c4b1 : decide (0 ≤ x8_1) = true := decide_eq_true c4
     clear c4
     by_cases c5 : x8_1 ≤ (wrap64 (x8_1 + 1))
     ·rw [if_pos c5] at H
      have c5b0 := eq_true c5
      have c5b1 : decide (x8_1 ≤ (wrap64 (x8_1 + 1))) = true := decide_eq_true c5
      by_cases c6 : (wrap64 (x8_1 + 1)) ≤ (a0.size : Int)
      ·rw [if_pos c6] at H
       have c6b0 := eq_true c6
       have c6b1 : decide ((wrap64 (x8_1 + 1)) ≤ (a0.size : Int)) = true := decide_eq_true c6
       by_cases c7 : x7_1.size + (a0.extract (x8_1 : Int).toNat ((wrap64 (x8_1 + 1)) : Int).toNat).size ≤ 9223372036854775807
       ·rw [if_pos c7] at H
        have c7b0 := eq_true c7
        have c7b1 : decide (x7_1.size + (a0.extract (x8_1 : Int).toNat ((wrap64 (x8_1 + 1)) : Int).toNat).size ≤ 9223372036854775807) = true := decide_eq_true c7
        try have c7b2 : (9223372036854775807 < x7_1.size + (a0.extract (x8_1 : Int).toNat ((wrap64 (x8_1 + 1)) : Int).toNat).size) = False := eq_false (Nat.not_lt.2 c7)
        obtain ⟨t172, A8, H⟩ := bindA H
        have H' := Aside0.mk H
        clear H
        go_wp2_with (first | (refine gz (f := 141) rfl (some 23) rfl Tryz.func141 (metrolabref01_bare.calls k1 (x7_1 ++ (a0.extract (x8_1 : Int).toNat ((wrap64 (x8_1 + 1)) : Int).toNat)) t172 _ A8.out) ?_; rintro w' ⟨nd, rfl⟩))
        go_loopg [7, 9] k1 (fun kq v7 v9 w' => ∃ (x7_2 : ByteArray) (x9_2 : Int), v7 = .string x7_2 ∧ v9 = .int .u8 x9_2 ∧ Aside0 (metrolabref01_divided.l1 kq a0 a1 x6_1 x7_2 x8_1 x9_2 = some (r1, r2)) ∧ Aside0 (kq ≤ k1) ∧ Aside0 (Below w.heap.size w w'))
        case atStart => exact ⟨(t172), (48), z25_, z25_, H', ⟨Nat.le_refl _⟩, ⟨by repeat (first | (with_reducible first | exact HB.out | apply below_alloc | apply pw_below_drewN | apply below_drew1) | exact HB.out)⟩⟩
        case round =>
         clear H'
         try clear c1
         try clear p2
         try clear c3
         try clear c3b0
         try clear c4
         try clear c4b0
         try clear c4b1
         try clear c5
         try clear c5b0
         try clear c5b1
         try clear c6
         try clear c6b0
         try clear c6b1
         try clear p6
         try clear c7
         try clear c7b0
         try clear c7b1
         try clear c7b2
         try clear p2
         obtain ⟨x7_2, x9_2, rfl, rfl, HA, HK2, HB⟩ := hrel
         cases gk with
         | zero => exact absurd HA.out (by simp [metrolabref01_divided.l1])
         | succ k2 =>
          have H := HA.out
          clear HA
          simp only [metrolabref01_divided.l1] at H
          obtain ⟨t173, A9, H⟩ := bindA H
          by_cases c10 : t173 = true
          ·subst c10
           rw [if_pos rfl] at H
           obtain ⟨y174, hy174⟩ : ∃ y_ : List Int, y_ = (([x9_2] : List Int)) := ⟨_, rfl⟩
           replace H : (if x6_1.size + (strOfNums y174).size ≤ 9223372036854775807 then (metrolabref01_divided.l0 k2 a0 a1 (x6_1 ++ (strOfNums y174)) x7_2 (wrap64 (x8_1 + 1))) else (none)) = some (r1, r2) := by first | (rw [hy174]; with_reducible exact H) | (have H2_ := (Option.bind_some _ _).symm.trans H; rw [hy174]; with_reducible exact H2_) | (have H2_ := (Option.bind_some _ _).symm.trans H; with_reducible exact H2_) | with_reducible exact H | (rw [hy174]; exact H) | exact H
           have Ny174 := Aside0.mk hy174
           clear hy174
           by_cases c11 : x6_1.size + (strOfNums y174).size ≤ 9223372036854775807
           ·rw [if_pos c11] at H
            have c11b0 := eq_true c11
            have c11b1 : decide (x6_1.size + (strOfNums y174).size ≤ 9223372036854775807) = true := decide_eq_true c11
            try have c11b2 : (9223372036854775807 < x6_1.size + (strOfNums y174).size) = False := eq_false (Nat.not_lt.2 c11)
            have H' := Aside0.mk H
            clear H
            go_wp2_with (first | (refine gz (f := 118) rfl (some 26) rfl Tryz.func118 (metrolabref01_less.calls x7_2 a1 true _ A9.out) ?_; rintro w' ⟨nd, rfl⟩) | ((with_reducible refine gate_dst (N := 35) rfl ?_); refine Kd.R_lit (Kd.int .u8) _ 5 ?hg (N := 35) ?hd (xs := ([x9_2] : List Int)) (inner := [.int .u8 x9_2]) (ok := fun _ => True) (okp := fun _ => True) ?hr ?hp (fun _ hk => hk) trivial (Below.refl _ _) (Nat.le_refl _) (by simp) ?_; (case hd => rfl); (case hg => rfl); (case hr => first | (go_simp; done) | (go_simp; rfl)); (case hp => exact (Reps.one (show Kd.M (Kd.int .u8) _ _ _ x9_2 [.int .u8 x9_2] from rfl) (Reps.none _ _))); intro v175 w12 ho13 hb hg_ hnew_; clear hg_ hnew_; (first | rw [← Ny174.out] at ho13 | (simp only [Int.reduceToNat] at ho13; rw [← Ny174.out] at ho13)); have n0_ := Aside0.mk (Kd.R_lower ho13 (below_size z10_)); have n1_ := Aside0.mk (below_step z10_ hb); clear HB; have HO176 := n0_; have HB := n1_; clear n0_ n1_; clear hb ho13; have hcv14 := own_string (P := Tryz.prog) Tryz.underlying161 Tryz.underlying5 Tryz.underlying9 (Kd.own_of_R HO176.out)))
            go_roundg k2
            case measure => have := HK1.out; have := HK2.out; omega
            case rel => exact ⟨(x6_1 ++ (strOfNums y174)), (x7_2), (wrap64 (x8_1 + 1)), z25_, z25_, z25_, H', ⟨by have := HK1.out; have := HK2.out; omega⟩, ⟨by repeat (first | (with_reducible first | exact HB.out | apply below_alloc | apply pw_below_drewN | apply below_drew1) | exact HB.out)⟩⟩
           ·rw [if_neg c11] at H
            exact absurd H (by simp)
          ·replace c10 := Bool.eq_false_iff.mpr c10
           subst c10
           rw [if_neg (show ¬ (false = true) by decide)] at H
           obtain ⟨t177, A15, H⟩ := bindA H
           have H' := Aside0.mk H
           clear H
           go_wp2_with (first | (refine gz (f := 118) rfl (some 26) rfl Tryz.func118 (metrolabref01_less.calls x7_2 a1 false _ A9.out) ?_; rintro w' ⟨nd, rfl⟩) | (refine gy (f := 117) rfl (some 30) rfl Tryz.func117 (metrolabref01_paper.calls k2 x7_2 a1 false t177 _ A15.out) z10_ ?_; clear HB; intro w16 HB))
           go_roundg k2
           case measure => have := HK1.out; have := HK2.out; omega
           case rel => exact ⟨(t177), ((x9_2 + 1) % 256), z25_, z25_, H', ⟨by have := HK1.out; have := HK2.out; omega⟩, ⟨by repeat (first | (with_reducible first | exact HB.out | apply below_alloc | apply pw_below_drewN | apply below_drew1) | exact HB.out)⟩⟩
       ·rw [if_neg c7] at H
        exact absurd H (by simp)
      ·rw [if_neg c6] at H
       exact absurd H (by simp)
     ·rw [if_neg c5] at H
      exact absurd H (by simp)
    ·rw [if_neg c4] at H
     exact absurd H (by simp)
   ·rw [if_neg c3] at H
    have c3b0 : decide (x8_1 < (a0.size : Int)) = false := decide_eq_false c3
    clear c3
    obtain ⟨t171, A17, H⟩ := bindA H
    simp only [Option.some.injEq, Prod.mk.injEq] at H
    obtain ⟨rfl, rfl⟩ := H
    go_wp2_with (first | (refine gz (f := 141) rfl (some 39) rfl Tryz.func141 (metrolabref01_bare.calls k1 x6_1 t171 _ A17.out) ?_; rintro w' ⟨nd, rfl⟩))
    go_ret2
    exact ⟨z24_, z10_⟩
mutual
def metrolabref01_Parted.j0 : Nat → Int → Int → Int → Bool → Option (ByteArray × ByteArray)
 | 0, _, _, _, _ => none
 | k + 1, x6, x7, x9, x32 => if x32 = true then (if x7 = 0 then (none) else ((metrolabref01_Of.f k (wrap64 (Int.tdiv (wrap64 (x6 - (wrap64 (x9 + x7)))) x7))).bind fun t181 => ((metrolabref01_Of.f k (wrap64 (x9 + x7))).bind fun t182 => (some (t181, t182))))) else (if x7 = 0 then (none) else ((metrolabref01_Of.f k (wrap64 (Int.tdiv (wrap64 (x6 - x9)) x7))).bind fun t183 => ((metrolabref01_Of.f k x9).bind fun t184 => (some (t183, t184)))))
def metrolabref01_Parted.j1 : Nat → ByteArray → ByteArray → ByteArray → Bool → Option (ByteArray × ByteArray)
 | 0, _, _, _, _ => none
 | k + 1, x0, x1, x12, x67 => if x67 = true then ((metrolabref01_Minus.f k x12 (⟨#[49]⟩ : ByteArray)).bind fun t194 => ((metrolabref01_Times.f k t194 x1).bind fun t195 => ((metrolabref01_Minus.f k x0 t195).bind fun t196 => (some (t194, t196))))) else ((metrolabref01_Times.f k x12 x1).bind fun t197 => ((metrolabref01_Minus.f k x0 t197).bind fun t198 => (some (x12, t198))))
end
def metrolabref01_Parted.f (k : Nat) (a0 : ByteArray) (a1 : ByteArray) : Option (ByteArray × ByteArray) := (metrolabref01_brief.f k a0 a1).bind fun bt178 => (if bt178.2.2 = true then (if bt178.2.1 = 0 then (none) else (if (Int.tmod bt178.1 bt178.2.1) = 0 then (metrolabref01_Parted.j0 k bt178.1 bt178.2.1 (Int.tmod bt178.1 bt178.2.1) false) else (metrolabref01_Parted.j0 k bt178.1 bt178.2.1 (Int.tmod bt178.1 bt178.2.1) ((decide ((Int.tmod bt178.1 bt178.2.1) < 0)) != (decide (bt178.2.1 < 0)))))) else ((metrolabref01_size.f a0).bind fun t185 => ((metrolabref01_size.f a1).bind fun t186 => ((metrolabref01_divided.f k t185 t186).bind fun bt187 => ((metrolabref01_Below.f a0).bind fun t189 => ((metrolabref01_Below.f a1).bind fun t190 => ((metrolabref01_signed.f bt187.1 (t189 != t190)).bind fun t191 => (if bt187.2.toList = ([48] : List UInt8) then (metrolabref01_Parted.j1 k a0 a1 t191 false) else ((metrolabref01_Below.f a0).bind fun t192 => ((metrolabref01_Below.f a1).bind fun t193 => (metrolabref01_Parted.j1 k a0 a1 t191 (t192 != t193))))))))))))
set_option maxHeartbeats 8000000 in
set_option maxRecDepth 100000 in
theorem metrolabref01_Parted.calls (k : Nat) (a0 : ByteArray) (a1 : ByteArray) (r1 : ByteArray) (r2 : ByteArray) (w : World) (h : metrolabref01_Parted.f k a0 a1 = some (r1, r2)) :
  Calls Tryz.prog 63 #[.string a0, .string a1] w fun e w' => e = .returned (.tuple #[.string r1, .string r2]) ∧ Below w.heap.size w w' := by
 have HB := Aside0.mk (Below.refl w.heap.size w)
 have H : ((metrolabref01_brief.f k a0 a1).bind fun bt178 => (if bt178.2.2 = true then (if bt178.2.1 = 0 then (none) else (if (Int.tmod bt178.1 bt178.2.1) = 0 then (metrolabref01_Parted.j0 k bt178.1 bt178.2.1 (Int.tmod bt178.1 bt178.2.1) false) else (metrolabref01_Parted.j0 k bt178.1 bt178.2.1 (Int.tmod bt178.1 bt178.2.1) ((decide ((Int.tmod bt178.1 bt178.2.1) < 0)) != (decide (bt178.2.1 < 0)))))) else ((metrolabref01_size.f a0).bind fun t185 => ((metrolabref01_size.f a1).bind fun t186 => ((metrolabref01_divided.f k t185 t186).bind fun bt187 => ((metrolabref01_Below.f a0).bind fun t189 => ((metrolabref01_Below.f a1).bind fun t190 => ((metrolabref01_signed.f bt187.1 (t189 != t190)).bind fun t191 => (if bt187.2.toList = ([48] : List UInt8) then (metrolabref01_Parted.j1 k a0 a1 t191 false) else ((metrolabref01_Below.f a0).bind fun t192 => ((metrolabref01_Below.f a1).bind fun t193 => (metrolabref01_Parted.j1 k a0 a1 t191 (t192 != t193))))))))))))) = some (r1, r2) := h
 clear h
 obtain ⟨⟨t178, t179, t180⟩, A3, H⟩ := bindA H
 dsimp only at H
 by_cases c4 : t180 = true
 ·subst c4
  rw [if_pos rfl] at H
  by_cases c5 : t179 = 0
  ·rw [if_pos c5] at H
   exact absurd H (by simp)
  ·rw [if_neg c5] at H
   have c5b0 := beq_eq_false_iff_ne.mpr c5
   have c5b1 := bne_iff_ne.mpr c5
   have HC6 := Aside0.mk H
   clear H
   go_enter Tryz.func63, Tryz.ntmps63
   go_upto_region 4 with (first | (refine gz (f := 105) rfl (some 16) rfl Tryz.func105 (metrolabref01_brief.calls k a0 a1 t178 t179 true _ A3.out) ?_; rintro w' ⟨nd, rfl⟩))
   (try simp only [Act.put, List.setIfInBounds_toArray, List.set_cons_zero, List.set_cons_succ])
   go_cut [32] (fun v32 wc => ∃ (kq : Nat) (x32_5 : Bool), v32 = .bool x32_5 ∧ Aside0 (metrolabref01_Parted.j0 kq t178 t179 (Int.tmod t178 t179) x32_5 = some (r1, r2)) ∧ Aside0 (kq ≤ k) ∧ Aside0 (Below w.heap.size w wc))
   case first =>
    have H := HC6.out
    clear HC6
    by_cases c7 : (Int.tmod t178 t179) = 0
    ·rw [if_pos c7] at H
     have c7b0 := beq_iff_eq.mpr c7
     have c7b1 := bne_eq_false_iff_eq.mpr c7
     clear c7
     (first | rw [c7b0] | (simp only [i64_w, i32_w]; rw [c7b0]) | skip)
     have H' := Aside0.mk H
     clear H
     go_wp2
     go_meet
     case rel => exact ⟨_, (false), z25_, H', ⟨by first | omega | exact Nat.le_refl _⟩, ⟨by repeat (first | (with_reducible first | exact HB.out | apply below_alloc | apply pw_below_drewN | apply below_drew1) | exact HB.out)⟩⟩
    ·rw [if_neg c7] at H
     have c7b0 := beq_eq_false_iff_ne.mpr c7
     have c7b1 := bne_iff_ne.mpr c7
     (first | rw [c7b0] | (simp only [i64_w, i32_w]; rw [c7b0]) | skip)
     have H' := Aside0.mk H
     clear H
     go_wp2
     go_meet
     case rel => exact ⟨_, (((decide ((Int.tmod t178 t179) < 0)) != (decide (t179 < 0)))), z25_, H', ⟨by first | omega | exact Nat.le_refl _⟩, ⟨by repeat (first | (with_reducible first | exact HB.out | apply below_alloc | apply pw_below_drewN | apply below_drew1) | exact HB.out)⟩⟩
   case rest =>
    clear HC6
    try clear c1
    try clear p2
    try clear c4
    try clear c5
    try clear c5b0
    try clear c5b1
    try clear c6
    try clear c7
    try clear c7b0
    try clear c7b1
    obtain ⟨kq, x32_5, rfl, HA, HJ5, HB⟩ := hcut
    cases kq with
    | zero => exact absurd HA.out (by simp [metrolabref01_Parted.j0])
    | succ kj5 =>
     have H := HA.out
     clear HA
     simp only [metrolabref01_Parted.j0] at H
     by_cases c8 : x32_5 = true
     ·subst c8
      rw [if_pos rfl] at H
      by_cases c9 : t179 = 0
      ·rw [if_pos c9] at H
       exact absurd H (by simp)
      ·rw [if_neg c9] at H
       have c9b0 := beq_eq_false_iff_ne.mpr c9
       have c9b1 := bne_iff_ne.mpr c9
       obtain ⟨t181, A10, H⟩ := bindA H
       obtain ⟨t182, A11, H⟩ := bindA H
       simp only [Option.some.injEq, Prod.mk.injEq] at H
       obtain ⟨rfl, rfl⟩ := H
       go_wp2_with (first | (refine gy (f := 106) rfl (some 41) rfl Tryz.func106 (metrolabref01_Of.calls kj5 (wrap64 (Int.tdiv (wrap64 (t178 - (wrap64 ((Int.tmod t178 t179) + t179)))) t179)) t181 _ A10.out) z10_ ?_; clear HB; intro w12 HB) | (refine gy (f := 106) rfl (some 43) rfl Tryz.func106 (metrolabref01_Of.calls kj5 (wrap64 ((Int.tmod t178 t179) + t179)) t182 _ A11.out) z10_ ?_; clear HB; intro w13 HB))
       go_ret2
       exact ⟨z24_, z10_⟩
     ·replace c8 := Bool.eq_false_iff.mpr c8
      subst c8
      rw [if_neg (show ¬ (false = true) by decide)] at H
      by_cases c14 : t179 = 0
      ·rw [if_pos c14] at H
       exact absurd H (by simp)
      ·rw [if_neg c14] at H
       have c14b0 := beq_eq_false_iff_ne.mpr c14
       have c14b1 := bne_iff_ne.mpr c14
       obtain ⟨t183, A15, H⟩ := bindA H
       obtain ⟨t184, A16, H⟩ := bindA H
       simp only [Option.some.injEq, Prod.mk.injEq] at H
       obtain ⟨rfl, rfl⟩ := H
       go_wp2_with (first | (refine gy (f := 106) rfl (some 41) rfl Tryz.func106 (metrolabref01_Of.calls kj5 (wrap64 (Int.tdiv (wrap64 (t178 - (Int.tmod t178 t179))) t179)) t183 _ A15.out) z10_ ?_; clear HB; intro w17 HB) | (refine gy (f := 106) rfl (some 43) rfl Tryz.func106 (metrolabref01_Of.calls kj5 (Int.tmod t178 t179) t184 _ A16.out) z10_ ?_; clear HB; intro w18 HB))
       go_ret2
       exact ⟨z24_, z10_⟩
 ·replace c4 := Bool.eq_false_iff.mpr c4
  subst c4
  rw [if_neg (show ¬ (false = true) by decide)] at H
  obtain ⟨t185, A19, H⟩ := bindA H
  obtain ⟨t186, A20, H⟩ := bindA H
  obtain ⟨⟨t187, t188⟩, A21, H⟩ := bindA H
  dsimp only at H
  obtain ⟨t189, A22, H⟩ := bindA H
  obtain ⟨t190, A23, H⟩ := bindA H
  obtain ⟨t191, A24, H⟩ := bindA H
  have HC25 := Aside0.mk H
  clear H
  go_enter Tryz.func63, Tryz.ntmps63
  go_upto_region 9 with (first | (refine gz (f := 105) rfl (some 16) rfl Tryz.func105 (metrolabref01_brief.calls k a0 a1 t178 t179 false _ A3.out) ?_; rintro w' ⟨nd, rfl⟩) | (refine gz (f := 90) rfl (some 46) rfl Tryz.func90 (metrolabref01_size.calls a0 t185 _ A19.out) ?_; rintro w' ⟨nd, rfl⟩) | (refine gz (f := 90) rfl (some 48) rfl Tryz.func90 (metrolabref01_size.calls a1 t186 _ A20.out) ?_; rintro w' ⟨nd, rfl⟩) | (refine gy (f := 107) rfl (some 49) rfl Tryz.func107 (metrolabref01_divided.calls k t185 t186 t187 t188 _ A21.out) z10_ ?_; clear HB; intro w26 HB) | (refine gz (f := 92) rfl (some 54) rfl Tryz.func92 (metrolabref01_Below.calls a0 t189 _ A22.out) ?_; rintro w' ⟨nd, rfl⟩) | (refine gz (f := 92) rfl (some 56) rfl Tryz.func92 (metrolabref01_Below.calls a1 t190 _ A23.out) ?_; rintro w' ⟨nd, rfl⟩) | (refine gz (f := 104) rfl (some 58) rfl Tryz.func104 (metrolabref01_signed.calls t187 (t189 != t190) t191 _ A24.out) ?_; rintro w' ⟨nd, rfl⟩))
  (try simp only [Act.put, List.setIfInBounds_toArray, List.set_cons_zero, List.set_cons_succ])
  go_cut [67] (fun v67 wc => ∃ (kq : Nat) (x67_24 : Bool), v67 = .bool x67_24 ∧ Aside0 (metrolabref01_Parted.j1 kq a0 a1 t191 x67_24 = some (r1, r2)) ∧ Aside0 (kq ≤ k) ∧ Aside0 (Below w.heap.size w wc))
  case first =>
   have H := HC25.out
   clear HC25
   by_cases c27 : t188.toList = ([48] : List UInt8)
   ·rw [if_pos c27] at H
    have c27b0 := beq_iff_eq.mpr c27
    have c27b1 := bne_eq_false_iff_eq.mpr c27
    clear c27
    (first | rw [c27b0] | (simp only [i64_w, i32_w]; rw [c27b0]) | skip)
    have H' := Aside0.mk H
    clear H
    go_wp2
    go_meet
    case rel => exact ⟨_, (false), z25_, H', ⟨by first | omega | exact Nat.le_refl _⟩, ⟨by repeat (first | (with_reducible first | exact HB.out | apply below_alloc | apply pw_below_drewN | apply below_drew1) | exact HB.out)⟩⟩
   ·rw [if_neg c27] at H
    have c27b0 := beq_eq_false_iff_ne.mpr c27
    have c27b1 := bne_iff_ne.mpr c27
    (first | rw [c27b0] | (simp only [i64_w, i32_w]; rw [c27b0]) | skip)
    obtain ⟨t192, A28, H⟩ := bindA H
    obtain ⟨t193, A29, H⟩ := bindA H
    have H' := Aside0.mk H
    clear H
    go_wp2_with (first | (go_at_call 92; (with_reducible refine (metrolabref01_Below.calls a0 t192 _ A28.out).mono ?_); rintro e w' ⟨rfl, ⟨nd, rfl⟩⟩) | (go_at_call 92; (with_reducible refine (metrolabref01_Below.calls a1 t193 _ A29.out).mono ?_); rintro e w' ⟨rfl, ⟨nd, rfl⟩⟩))
    go_meet
    case rel => exact ⟨_, ((t192 != t193)), z25_, H', ⟨by first | omega | exact Nat.le_refl _⟩, ⟨by repeat (first | (with_reducible first | exact HB.out | apply below_alloc | apply pw_below_drewN | apply below_drew1) | exact HB.out)⟩⟩
  case rest =>
   clear HC25
   try clear c1
   try clear c2
   try clear p2
   try clear c4
   try clear c5
   try clear c5b0
   try clear c5b1
   try clear c6
   try clear p6
   try clear c7
   try clear c7b0
   try clear c7b1
   try clear c8
   try clear c9
   try clear c9b0
   try clear c9b1
   try clear c10
   try clear c14
   try clear c14b0
   try clear c14b1
   try clear c27
   try clear c27b0
   try clear c27b1
   try clear p2
   obtain ⟨kq, x67_24, rfl, HA, HJ24, HB⟩ := hcut
   cases kq with
   | zero => exact absurd HA.out (by simp [metrolabref01_Parted.j1])
   | succ kj24 =>
    have H := HA.out
    clear HA
    simp only [metrolabref01_Parted.j1] at H
    by_cases c30 : x67_24 = true
    ·subst c30
     rw [if_pos rfl] at H
     obtain ⟨t194, A31, H⟩ := bindA H
     obtain ⟨t195, A32, H⟩ := bindA H
     obtain ⟨t196, A33, H⟩ := bindA H
     simp only [Option.some.injEq, Prod.mk.injEq] at H
     obtain ⟨rfl, rfl⟩ := H
     go_wp2_with (first | (refine gy (f := 91) rfl (some 69) rfl Tryz.func91 (metrolabref01_Minus.calls kj24 t191 (⟨#[49]⟩ : ByteArray) t194 _ A31.out) z10_ ?_; clear HB; intro w34 HB) | (refine gy (f := 97) rfl (some 74) rfl Tryz.func97 (metrolabref01_Times.calls kj24 t194 a1 t195 _ A32.out) z10_ ?_; clear HB; intro w35 HB) | (refine gy (f := 91) rfl (some 75) rfl Tryz.func91 (metrolabref01_Minus.calls kj24 a0 t195 t196 _ A33.out) z10_ ?_; clear HB; intro w36 HB))
     go_ret2
     exact ⟨z24_, z10_⟩
    ·replace c30 := Bool.eq_false_iff.mpr c30
     subst c30
     rw [if_neg (show ¬ (false = true) by decide)] at H
     obtain ⟨t197, A37, H⟩ := bindA H
     obtain ⟨t198, A38, H⟩ := bindA H
     simp only [Option.some.injEq, Prod.mk.injEq] at H
     obtain ⟨rfl, rfl⟩ := H
     go_wp2_with (first | (refine gy (f := 97) rfl (some 74) rfl Tryz.func97 (metrolabref01_Times.calls kj24 t191 a1 t197 _ A37.out) z10_ ?_; clear HB; intro w39 HB) | (refine gy (f := 91) rfl (some 75) rfl Tryz.func91 (metrolabref01_Minus.calls kj24 a0 t197 t198 _ A38.out) z10_ ?_; clear HB; intro w40 HB))
     go_ret2
     exact ⟨z24_, z10_⟩
end Go.Proofs.YtkdpcgmnkifbbaaGreatDoor.R
end
