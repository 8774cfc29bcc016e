/- Joined by a program of this session out of its texts, with only what the last theorem needs: Rx3. No conditions but those stated. -/
import Derived.Test.YtkdpcgmnkifbbaaGreatDoorZC08
import Derived.Test.YtkdpcgmnkifbbaaGreatDoorZC09
import Derived.Test.YtkdpcgmnkifbbaaGreatDoorZC10
set_option linter.unusedVariables false
set_option linter.unusedSimpArgs false
namespace Go.Proofs.YtkdpcgmnkifbbaaGreatDoorW.PrintLast
end Go.Proofs.YtkdpcgmnkifbbaaGreatDoorW.PrintLast
namespace Go.Proofs.YtkdpcgmnkifbbaaGreatDoorW.PrintMore
end Go.Proofs.YtkdpcgmnkifbbaaGreatDoorW.PrintMore
namespace Go.Proofs.YtkdpcgmnkifbbaaGreatDoorW.PrintWords
end Go.Proofs.YtkdpcgmnkifbbaaGreatDoorW.PrintWords
namespace Go.Proofs.YtkdpcgmnkifbbaaGreatDoor.R
open Go.RowKit Go.Proofs.YtkdpcgmnkifbbaaGreatDoorW.PrintWords Go.Proofs.YtkdpcgmnkifbbaaGreatDoorW.PrintLast Go.Proofs.YtkdpcgmnkifbbaaGreatDoorW.PrintMore
attribute [local go_sem] max2_int min2_int max_two min_two max_three min_three max_four min_four
set_option linter.unusedVariables false
set_option linter.unusedSimpArgs false
def metrolabref01_Plus.f (k : Nat) (a0 : ByteArray) (a1 : ByteArray) : Option (ByteArray) := (metrolabref01_brief.f k a0 a1).bind fun bt128 => (if bt128.2.2 = true then ((metrolabref01_Of.f k (wrap64 (bt128.1 + bt128.2.1))).bind fun t131 => (some t131)) else ((metrolabref01_size.f a0).bind fun t132 => ((metrolabref01_size.f a1).bind fun t133 => ((metrolabref01_Below.f a0).bind fun t134 => ((metrolabref01_Below.f a1).bind fun t135 => (if (t134 == t135) = true then ((metrolabref01_paper.f k t132 t133 true).bind fun t136 => ((metrolabref01_Below.f a0).bind fun t137 => ((metrolabref01_signed.f t136 t137).bind fun t138 => (some t138)))) else ((metrolabref01_less.f t132 t133).bind fun t139 => (if t139 = true then ((metrolabref01_paper.f k t133 t132 false).bind fun t140 => ((metrolabref01_Below.f a1).bind fun t141 => ((metrolabref01_signed.f t140 t141).bind fun t142 => (some t142)))) else ((metrolabref01_paper.f k t132 t133 false).bind fun t143 => ((metrolabref01_Below.f a0).bind fun t144 => ((metrolabref01_signed.f t143 t144).bind fun t145 => (some t145))))))))))))
set_option maxHeartbeats 8000000 in
set_option maxRecDepth 100000 in
theorem metrolabref01_Plus.calls (k : Nat) (a0 : ByteArray) (a1 : ByteArray) (r : ByteArray) (w : World) (h : metrolabref01_Plus.f k a0 a1 = some r) :
  Calls Tryz.prog 76 #[.string a0, .string a1] w fun e w' => e = .returned (.string r) ∧ Below w.heap.size w w' := by
 have HB := Aside0.mk (Below.refl w.heap.size w)
 have H : ((metrolabref01_brief.f k a0 a1).bind fun bt128 => (if bt128.2.2 = true then ((metrolabref01_Of.f k (wrap64 (bt128.1 + bt128.2.1))).bind fun t131 => (some t131)) else ((metrolabref01_size.f a0).bind fun t132 => ((metrolabref01_size.f a1).bind fun t133 => ((metrolabref01_Below.f a0).bind fun t134 => ((metrolabref01_Below.f a1).bind fun t135 => (if (t134 == t135) = true then ((metrolabref01_paper.f k t132 t133 true).bind fun t136 => ((metrolabref01_Below.f a0).bind fun t137 => ((metrolabref01_signed.f t136 t137).bind fun t138 => (some t138)))) else ((metrolabref01_less.f t132 t133).bind fun t139 => (if t139 = true then ((metrolabref01_paper.f k t133 t132 false).bind fun t140 => ((metrolabref01_Below.f a1).bind fun t141 => ((metrolabref01_signed.f t140 t141).bind fun t142 => (some t142)))) else ((metrolabref01_paper.f k t132 t133 false).bind fun t143 => ((metrolabref01_Below.f a0).bind fun t144 => ((metrolabref01_signed.f t143 t144).bind fun t145 => (some t145))))))))))))) = some r := h
 clear h
 obtain ⟨⟨t128, t129, t130⟩, A3, H⟩ := bindA H
 dsimp only at H
 by_cases c4 : t130 = true
 ·subst c4
  rw [if_pos rfl] at H
  obtain ⟨t131, A5, H⟩ := bindA H
  obtain rfl := Option.some.inj H
  go_enter Tryz.func76, Tryz.ntmps76
  go_wp2_with (first | (refine gz (f := 105) rfl (some 13) rfl Tryz.func105 (metrolabref01_brief.calls k a0 a1 t128 t129 true _ A3.out) ?_; rintro w' ⟨nd, rfl⟩) | (refine gy (f := 106) rfl (some 21) rfl Tryz.func106 (metrolabref01_Of.calls k (wrap64 (t128 + t129)) t131 _ A5.out) z10_ ?_; clear HB; intro w6 HB))
  go_ret
  exact ⟨z24_, z10_⟩
 ·replace c4 := Bool.eq_false_iff.mpr c4
  subst c4
  rw [if_neg (show ¬ (false = true) by decide)] at H
  obtain ⟨t132, A7, H⟩ := bindA H
  obtain ⟨t133, A8, H⟩ := bindA H
  obtain ⟨t134, A9, H⟩ := bindA H
  obtain ⟨t135, A10, H⟩ := bindA H
  by_cases c11 : (t134 == t135) = true
  ·rw [if_pos c11] at H
   have c11b0 : (t134 == t135) = true := c11
   (try (have c11b1 : decide (t134 = t135) = true := by simpa using c11))
   (try (have c11b2 : (t134 == t135) = true := by simpa using c11))
   clear c11
   obtain ⟨t136, A12, H⟩ := bindA H
   obtain ⟨t137, A13, H⟩ := bindA H
   obtain ⟨t138, A14, H⟩ := bindA H
   obtain rfl := Option.some.inj H
   go_enter Tryz.func76, Tryz.ntmps76
   go_wp2_with (first | (refine gz (f := 105) rfl (some 13) rfl Tryz.func105 (metrolabref01_brief.calls k a0 a1 t128 t129 false _ A3.out) ?_; rintro w' ⟨nd, rfl⟩) | (refine gz (f := 90) rfl (some 23) rfl Tryz.func90 (metrolabref01_size.calls a0 t132 _ A7.out) ?_; rintro w' ⟨nd, rfl⟩) | (refine gz (f := 90) rfl (some 25) rfl Tryz.func90 (metrolabref01_size.calls a1 t133 _ A8.out) ?_; rintro w' ⟨nd, rfl⟩) | (refine gz (f := 92) rfl (some 27) rfl Tryz.func92 (metrolabref01_Below.calls a0 t134 _ A9.out) ?_; rintro w' ⟨nd, rfl⟩) | (refine gz (f := 92) rfl (some 29) rfl Tryz.func92 (metrolabref01_Below.calls a1 t135 _ A10.out) ?_; rintro w' ⟨nd, rfl⟩) | (refine gy (f := 117) rfl (some 33) rfl Tryz.func117 (metrolabref01_paper.calls k t132 t133 true t136 _ A12.out) z10_ ?_; clear HB; intro w15 HB) | (refine gz (f := 92) rfl (some 35) rfl Tryz.func92 (metrolabref01_Below.calls a0 t137 _ A13.out) ?_; rintro w' ⟨nd, rfl⟩) | (refine gz (f := 104) rfl (some 36) rfl Tryz.func104 (metrolabref01_signed.calls t136 t137 t138 _ A14.out) ?_; rintro w' ⟨nd, rfl⟩))
   go_ret
   exact ⟨z24_, z10_⟩
  ·rw [if_neg c11] at H
   have c11b0 : (t134 == t135) = false := by simpa using c11
   (try (have c11b1 : decide (t134 = t135) = false := by simpa using c11))
   (try (have c11b2 : (t134 == t135) = false := by simpa using c11))
   (try (have c11b3 : ¬ (t134 = t135) := by simpa using c11))
   clear c11
   obtain ⟨t139, A16, H⟩ := bindA H
   by_cases c17 : t139 = true
   ·subst c17
    rw [if_pos rfl] at H
    obtain ⟨t140, A18, H⟩ := bindA H
    obtain ⟨t141, A19, H⟩ := bindA H
    obtain ⟨t142, A20, H⟩ := bindA H
    obtain rfl := Option.some.inj H
    go_enter Tryz.func76, Tryz.ntmps76
    go_wp2_with (first | (refine gz (f := 105) rfl (some 13) rfl Tryz.func105 (metrolabref01_brief.calls k a0 a1 t128 t129 false _ A3.out) ?_; rintro w' ⟨nd, rfl⟩) | (refine gz (f := 90) rfl (some 23) rfl Tryz.func90 (metrolabref01_size.calls a0 t132 _ A7.out) ?_; rintro w' ⟨nd, rfl⟩) | (refine gz (f := 90) rfl (some 25) rfl Tryz.func90 (metrolabref01_size.calls a1 t133 _ A8.out) ?_; rintro w' ⟨nd, rfl⟩) | (refine gz (f := 92) rfl (some 27) rfl Tryz.func92 (metrolabref01_Below.calls a0 t134 _ A9.out) ?_; rintro w' ⟨nd, rfl⟩) | (refine gz (f := 92) rfl (some 29) rfl Tryz.func92 (metrolabref01_Below.calls a1 t135 _ A10.out) ?_; rintro w' ⟨nd, rfl⟩) | (refine gz (f := 118) rfl (some 39) rfl Tryz.func118 (metrolabref01_less.calls t132 t133 true _ A16.out) ?_; rintro w' ⟨nd, rfl⟩) | (refine gy (f := 117) rfl (some 42) rfl Tryz.func117 (metrolabref01_paper.calls k t133 t132 false t140 _ A18.out) z10_ ?_; clear HB; intro w21 HB) | (refine gz (f := 92) rfl (some 44) rfl Tryz.func92 (metrolabref01_Below.calls a1 t141 _ A19.out) ?_; rintro w' ⟨nd, rfl⟩) | (refine gz (f := 104) rfl (some 45) rfl Tryz.func104 (metrolabref01_signed.calls t140 t141 t142 _ A20.out) ?_; rintro w' ⟨nd, rfl⟩))
    go_ret
    exact ⟨z24_, z10_⟩
   ·replace c17 := Bool.eq_false_iff.mpr c17
    subst c17
    rw [if_neg (show ¬ (false = true) by decide)] at H
    obtain ⟨t143, A22, H⟩ := bindA H
    obtain ⟨t144, A23, H⟩ := bindA H
    obtain ⟨t145, A24, H⟩ := bindA H
    obtain rfl := Option.some.inj H
    go_enter Tryz.func76, Tryz.ntmps76
    go_wp2_with (first | (refine gz (f := 105) rfl (some 13) rfl Tryz.func105 (metrolabref01_brief.calls k a0 a1 t128 t129 false _ A3.out) ?_; rintro w' ⟨nd, rfl⟩) | (refine gz (f := 90) rfl (some 23) rfl Tryz.func90 (metrolabref01_size.calls a0 t132 _ A7.out) ?_; rintro w' ⟨nd, rfl⟩) | (refine gz (f := 90) rfl (some 25) rfl Tryz.func90 (metrolabref01_size.calls a1 t133 _ A8.out) ?_; rintro w' ⟨nd, rfl⟩) | (refine gz (f := 92) rfl (some 27) rfl Tryz.func92 (metrolabref01_Below.calls a0 t134 _ A9.out) ?_; rintro w' ⟨nd, rfl⟩) | (refine gz (f := 92) rfl (some 29) rfl Tryz.func92 (metrolabref01_Below.calls a1 t135 _ A10.out) ?_; rintro w' ⟨nd, rfl⟩) | (refine gz (f := 118) rfl (some 39) rfl Tryz.func118 (metrolabref01_less.calls t132 t133 false _ A16.out) ?_; rintro w' ⟨nd, rfl⟩) | (refine gy (f := 117) rfl (some 48) rfl Tryz.func117 (metrolabref01_paper.calls k t132 t133 false t143 _ A22.out) z10_ ?_; clear HB; intro w25 HB) | (refine gz (f := 92) rfl (some 50) rfl Tryz.func92 (metrolabref01_Below.calls a0 t144 _ A23.out) ?_; rintro w' ⟨nd, rfl⟩) | (refine gz (f := 104) rfl (some 51) rfl Tryz.func104 (metrolabref01_signed.calls t143 t144 t145 _ A24.out) ?_; rintro w' ⟨nd, rfl⟩))
    go_ret
    exact ⟨z24_, z10_⟩
def metrolabref01_Minus.f (k : Nat) (a0 : ByteArray) (a1 : ByteArray) : Option (ByteArray) := (metrolabref01_Turned.f a1).bind fun t146 => ((metrolabref01_Plus.f k a0 t146).bind fun t147 => (some t147))
set_option maxHeartbeats 8000000 in
set_option maxRecDepth 100000 in
theorem metrolabref01_Minus.calls (k : Nat) (a0 : ByteArray) (a1 : ByteArray) (r : ByteArray) (w : World) (h : metrolabref01_Minus.f k a0 a1 = some r) :
  Calls Tryz.prog 91 #[.string a0, .string a1] w fun e w' => e = .returned (.string r) ∧ Below w.heap.size w w' := by
 have HB := Aside0.mk (Below.refl w.heap.size w)
 have H : ((metrolabref01_Turned.f a1).bind fun t146 => ((metrolabref01_Plus.f k a0 t146).bind fun t147 => (some t147))) = some r := h
 clear h
 obtain ⟨t146, A3, H⟩ := bindA H
 obtain ⟨t147, A4, H⟩ := bindA H
 obtain rfl := Option.some.inj H
 go_enter Tryz.func91, Tryz.ntmps91
 go_wp2_with (first | (refine gz (f := 129) rfl (some 7) rfl Tryz.func129 (metrolabref01_Turned.calls a1 t146 _ A3.out) ?_; rintro w' ⟨nd, rfl⟩) | (refine gy (f := 76) rfl (some 8) rfl Tryz.func76 (metrolabref01_Plus.calls k a0 t146 t147 _ A4.out) z10_ ?_; clear HB; intro w5 HB))
 go_ret
 exact ⟨z24_, z10_⟩
mutual
def metrolabref01_product.l0 : Nat → ByteArray → ByteArray → List Int → Int → Option (ByteArray)
 | 0, _, _, _, _ => none
 | k + 1, x0, x1, x5, x6 => if x6 < (x0.size : Int) then (metrolabref01_product.l1 k x0 x1 x5 x6 0) else (if 0 ≤ (x5.length : Int) then (if ((x5.length : Int) : Int).toNat ≤ 281474976710656 then (metrolabref01_product.l2 k x5 (List.replicate ((x5.length : Int) : Int).toNat 0) 0 (wrap64 ((x5.length : Int) - 1))) else (none)) else (none))
def metrolabref01_product.l1 : Nat → ByteArray → ByteArray → List Int → Int → Int → Option (ByteArray)
 | 0, _, _, _, _, _ => none
 | k + 1, x0, x1, x5, x6, x7 => if x7 < (x1.size : Int) then (if 0 ≤ (wrap64 ((wrap64 (x6 + x7)) + 1)) then (if (wrap64 ((wrap64 (x6 + x7)) + 1)) < (x5.length : Int) then (if 0 ≤ x6 then (if x6 < (x0.size : Int) then (if 0 ≤ x7 then (metrolabref01_product.l1 k x0 x1 (x5.set ((wrap64 ((wrap64 (x6 + x7)) + 1)) : Int).toNat (wrap64 ((rd x5 (wrap64 ((wrap64 (x6 + x7)) + 1))) + (wrap64 ((((bt x0 x6) - 48) % 256) * (((bt x1 x7) - 48) % 256)))))) x6 (wrap64 (x7 + 1))) else (none)) else (none)) else (none)) else (none)) else (none)) else (metrolabref01_product.l0 k x0 x1 x5 (wrap64 (x6 + 1)))
def metrolabref01_product.l2 : Nat → List Int → List Int → Int → Int → Option (ByteArray)
 | 0, _, _, _, _ => none
 | k + 1, x5, x8, x9, x10 => if x10 ≥ 0 then (if 0 ≤ x10 then (if x10 < (x5.length : Int) then (if x10 < (x8.length : Int) then (metrolabref01_product.l2 k x5 (x8.set (x10 : Int).toNat ((wrap64 (48 + (Int.tmod (wrap64 (x9 + (rd x5 x10))) 10))) % 256)) (wrap64 (Int.tdiv (wrap64 (x9 + (rd x5 x10))) 10)) (wrap64 (x10 - 1))) else (none)) else (none)) else (none)) else ((metrolabref01_bare.f k (strOfNums x8)).bind fun t158 => (some t158))
end
def metrolabref01_product.f (k : Nat) (a0 : ByteArray) (a1 : ByteArray) : Option (ByteArray) := if 0 ≤ (wrap64 ((a0.size : Int) + (a1.size : Int))) then (if (wrap64 ((a0.size : Int) + (a1.size : Int)) : Int).toNat ≤ 35184372088832 then (metrolabref01_product.l0 k a0 a1 (List.replicate (wrap64 ((a0.size : Int) + (a1.size : Int)) : Int).toNat 0) 0) else (none)) else (none)
def metrolabref01_product.T8 : Bool × List (List Nat × List Nat) := (true, [([], []), ([], []), ([], []), ([1, 2], [1, 2]), ([3], [3]), ([0, 4], [0, 4]), ([5], [5]), ([], []), ([], []), ([7, 8], [7, 8]), ([9], [9]), ([10], [10]), ([], []), ([], []), ([12, 13], [12, 13]), ([14], [14]), ([15], [15]), ([11, 16], [11, 16]), ([6, 17], [6, 17]), ([0, 4, 0, 1, 2, 3, 4, 5, 6, 7, 8, 9, 10, 11, 12, 13, 14, 15, 16, 17, 18], [0, 4]), ([19, 18, 0, 1, 2, 3, 4, 5, 6, 7, 8, 9, 10, 11, 12, 13, 14, 15, 16, 17, 18], [18, 19])])
def metrolabref01_product.B8 : List Nat := [0, 0, 0, 6, 14, 31, 63, 0, 0, 384, 896, 1920, 0, 0, 12288, 28672, 61440, 130944, 262143, 524287, 1048575]
theorem metrolabref01_product.tab8 : rtab .any (opsOf Tryz.f135 8) = metrolabref01_product.T8 := by kernel_rfl
theorem metrolabref01_product.bits8 : waitsOk metrolabref01_product.T8.2 metrolabref01_product.B8 = true := by kernel_rfl
set_option maxHeartbeats 8000000 in
set_option maxRecDepth 100000 in
theorem metrolabref01_product.calls (k : Nat) (a0 : ByteArray) (a1 : ByteArray) (r : ByteArray) (w : World) (h : metrolabref01_product.f k a0 a1 = some r) :
  Calls Tryz.prog 135 #[.string a0, .string a1] w fun e w' => e = .returned (.string r) ∧ Below w.heap.size w w' := by
 have HB := Aside0.mk (Below.refl w.heap.size w)
 have H : (if 0 ≤ (wrap64 ((a0.size : Int) + (a1.size : Int))) then (if (wrap64 ((a0.size : Int) + (a1.size : Int)) : Int).toNat ≤ 35184372088832 then (metrolabref01_product.l0 k a0 a1 (List.replicate (wrap64 ((a0.size : Int) + (a1.size : Int)) : Int).toNat 0) 0) else (none)) else (none)) = some r := h
 clear h
 obtain ⟨ji3, hji3⟩ : ∃ j_ : Int, (wrap64 ((a0.size : Int) + (a1.size : Int))) = j_ := ⟨_, rfl⟩
 replace H : (if 0 ≤ (ji3) then (if (ji3 : Int).toNat ≤ 35184372088832 then (metrolabref01_product.l0 k a0 a1 (List.replicate (ji3 : Int).toNat 0) 0) else (none)) else (none)) = some r := by first | (rw [hji3] at H; exact H) | (simp only [hji3] at H ⊢; exact H)
 have hji3w : (IntKind.i64.wrap ((a0.size : Int) + (a1.size : Int))) = ji3 := (i64_w _).trans hji3
 by_cases c4 : 0 ≤ (ji3)
 ·rw [if_pos c4] at H
  have c4b0 := eq_true c4
  have c4b1 : decide (0 ≤ (ji3)) = true := decide_eq_true c4
  clear c4
  by_cases c5 : (ji3 : Int).toNat ≤ 35184372088832
  ·rw [if_pos c5] at H
   have c5b0 := eq_true c5
   have c5b1 : decide ((ji3 : Int).toNat ≤ 35184372088832) = true := decide_eq_true c5
   clear c5
   obtain ⟨y148, hy148⟩ : ∃ y_ : List Int, y_ = (List.replicate (ji3 : Int).toNat 0) := ⟨_, rfl⟩
   replace H : (metrolabref01_product.l0 k a0 a1 y148 0) = some r := by first | (rw [hy148]; with_reducible exact H) | (have H2_ := (Option.bind_some _ _).symm.trans H; rw [hy148]; with_reducible exact H2_) | (have H2_ := (Option.bind_some _ _).symm.trans H; with_reducible exact H2_) | with_reducible exact H | (rw [hy148]; exact H) | exact H
   have Ny148 := Aside0.mk hy148
   clear hy148
   have H' := Aside0.mk H
   clear H
   go_enter Tryz.func135, Tryz.ntmps135
   go_wp2_with (first | ((with_reducible refine gate_dst (N := 16) rfl ?_); refine Kd.R_make (Kd.int .i64) _ 3 rfl (N := 16) rfl 157 _ _ rfl ji3 rfl rfl Tryz.underlying157 (.int .i64 0) 8 info3 rfl (by decide) (by omega) 0 (ok := fun _ => True) (okp := fun _ => True) rfl (fun _ hk => hk) trivial (of_decide_eq_true z26_) (Nat.le_trans (Nat.mul_le_mul_right _ (of_decide_eq_true z26_ : ji3.toNat ≤ 35184372088832)) (by omega)) (Below.refl _ _) (Nat.le_refl _) ?_; intro v149 w6 ho7 hb hg_ hnew_; clear hg_ hnew_; (first | rw [← Ny148.out] at ho7 | (simp only [Int.reduceToNat] at ho7; rw [← Ny148.out] at ho7)); have n0_ := Aside0.mk (Kd.R_lower ho7 (below_size z10_)); have n1_ := Aside0.mk (below_step z10_ hb); clear HB; have HO150 := n0_; have HB := n1_; clear n0_ n1_; clear hb ho7))
   go_loopg [6] k (fun kq v6 w' => ∃ (x5_1 : List Int) (x6_1 : Int), v6 = .int .i64 x6_1 ∧ Aside0 (metrolabref01_product.l0 kq a0 a1 x5_1 x6_1 = some r) ∧ Aside0 (kq ≤ k) ∧ Aside0 (Kd.R (Kd.int .i64) 3 w' w.heap.size (fun _ => True) v149 x5_1) ∧ Aside0 (Below w.heap.size w w'))
   case atStart => exact ⟨(y148), (0), z25_, H', ⟨Nat.le_refl _⟩, ⟨by (with_reducible repeat (first | apply Kd.R_alloc | apply Kd.R_drewN | apply Kd.R_drew)); first | exact HO150.out | (simp only [w64_m256]; exact HO150.out)⟩, ⟨by repeat (first | (with_reducible first | exact HB.out | apply below_alloc | apply pw_below_drewN | apply below_drew1) | exact HB.out)⟩⟩
   case round =>
    clear H'
    try clear c1
    try clear p2
    try clear c4
    try clear c4b0
    try clear c4b1
    try clear c5
    try clear c5b0
    try clear c5b1
    try clear p6
    obtain ⟨x5_1, x6_1, rfl, HA, HK1, HO_5, HB⟩ := hrel
    cases gk with
    | zero => exact absurd HA.out (by simp [metrolabref01_product.l0])
    | succ k1 =>
     have H := HA.out
     clear HA
     simp only [metrolabref01_product.l0] at H
     by_cases c8 : x6_1 < (a0.size : Int)
     ·rw [if_pos c8] at H
      have c8b0 : decide (x6_1 < (a0.size : Int)) = true := decide_eq_true c8
      clear c8
      have H' := Aside0.mk H
      clear H
      go_wp2
      go_loopg [7] k1 (fun kq v7 w' => ∃ (x5_2 : List Int) (x7_2 : Int), v7 = .int .i64 x7_2 ∧ Aside0 (metrolabref01_product.l1 kq a0 a1 x5_2 x6_1 x7_2 = some r) ∧ Aside0 (kq ≤ k1) ∧ Aside0 (Kd.R (Kd.int .i64) 3 w' w.heap.size (fun _ => True) v149 x5_2) ∧ Aside0 (Below w.heap.size w w'))
      case atStart => exact ⟨(x5_1), (0), z25_, H', ⟨Nat.le_refl _⟩, ⟨by (with_reducible repeat (first | apply Kd.R_alloc | apply Kd.R_drewN | apply Kd.R_drew)); first | exact HO_5.out | (simp only [w64_m256]; exact HO_5.out)⟩, ⟨by repeat (first | (with_reducible first | exact HB.out | apply below_alloc | apply pw_below_drewN | apply below_drew1) | exact HB.out)⟩⟩
      case round =>
       clear H'
       try clear c1
       try clear p2
       try clear c4
       try clear c4b0
       try clear c4b1
       try clear c5
       try clear c5b0
       try clear c5b1
       try clear p6
       try clear c8
       try clear c8b0
       try clear p2
       try clear p6
       obtain ⟨x5_2, x7_2, rfl, HA, HK2, HO_5, HB⟩ := hrel
       cases gk with
       | zero => exact absurd HA.out (by simp [metrolabref01_product.l1])
       | succ k2 =>
        have H := HA.out
        clear HA
        simp only [metrolabref01_product.l1] at H
        by_cases c9 : x7_2 < (a1.size : Int)
        ·rw [if_pos c9] at H
         have c9b0 : decide (x7_2 < (a1.size : Int)) = true := decide_eq_true c9
         clear c9
         obtain ⟨ji10, hji10⟩ : ∃ j_ : Int, (wrap64 ((wrap64 (x6_1 + x7_2)) + 1)) = j_ := ⟨_, rfl⟩
         replace H : (if 0 ≤ (ji10) then (if (ji10) < (x5_2.length : Int) then (if 0 ≤ x6_1 then (if x6_1 < (a0.size : Int) then (if 0 ≤ x7_2 then (metrolabref01_product.l1 k2 a0 a1 (x5_2.set ((ji10) : Int).toNat (wrap64 ((rd x5_2 (ji10)) + (wrap64 ((((bt a0 x6_1) - 48) % 256) * (((bt a1 x7_2) - 48) % 256)))))) x6_1 (wrap64 (x7_2 + 1))) else (none)) else (none)) else (none)) else (none)) else (none)) = some r := by first | (rw [hji10] at H; exact H) | (simp only [hji10] at H ⊢; exact H)
         have hji10w : (IntKind.i64.wrap ((wrap64 (x6_1 + x7_2)) + 1)) = ji10 := (i64_w _).trans hji10
         by_cases c11 : 0 ≤ (ji10)
         ·rw [if_pos c11] at H
          have c11b0 : decide (0 ≤ (ji10)) = true := decide_eq_true c11
          clear c11
          by_cases c12 : (ji10) < (x5_2.length : Int)
          ·rw [if_pos c12] at H
           have c12b0 : decide ((ji10) < (x5_2.length : Int)) = true := decide_eq_true c12
           clear c12
           by_cases c13 : 0 ≤ x6_1
           ·rw [if_pos c13] at H
            have c13b0 : decide (0 ≤ x6_1) = true := decide_eq_true c13
            clear c13
            by_cases c14 : x6_1 < (a0.size : Int)
            ·rw [if_pos c14] at H
             have c14b0 : decide (x6_1 < (a0.size : Int)) = true := decide_eq_true c14
             clear c14
             by_cases c16 : 0 ≤ x7_2
             ·rw [if_pos c16] at H
              have c16b0 : decide (0 ≤ x7_2) = true := decide_eq_true c16
              clear c16
              obtain ⟨y152, hy152⟩ : ∃ y_ : List Int, y_ = (x5_2.set ((ji10) : Int).toNat (wrap64 ((rd x5_2 (ji10)) + (wrap64 ((((bt a0 x6_1) - 48) % 256) * (((bt a1 x7_2) - 48) % 256)))))) := ⟨_, rfl⟩
              replace H : (metrolabref01_product.l1 k2 a0 a1 y152 x6_1 (wrap64 (x7_2 + 1))) = some r := by first | (rw [hy152]; with_reducible exact H) | (have H2_ := (Option.bind_some _ _).symm.trans H; rw [hy152]; with_reducible exact H2_) | (have H2_ := (Option.bind_some _ _).symm.trans H; with_reducible exact H2_) | with_reducible exact H | (rw [hy152]; exact H) | exact H
              have Ny152 := Aside0.mk hy152
              clear hy152
              have H' := Aside0.mk H
              clear H
              try go_wp2
              have n0_ := Aside0.mk (Kd.R_drew HO_5.out)
              have n1_ := Aside0.mk (below_drew1 HB.out)
              clear HO_5
              clear HB
              have HO_5 := n0_
              have HB := n1_
              clear n0_ n1_
              obtain ⟨Ao20, co20, eo20⟩ := Kd.R_slice HO_5.out
              (first | subst eo20 | (injection eo20 with f1_ f2_ f3_; have f4_ := f1_.symm; have f5_ := f3_.symm; clear f1_ f2_ f3_; subst f4_; subst f5_))
              have p151 : 0 ≤ ((ji10) : Int) := of_decide_eq_true z26_
              have q151 : (ji10) < (x5_2.length : Int) := of_decide_eq_true z26_
              obtain ⟨ad151, e151, hx151_0⟩ := Kd.at_int (Kd.R_reads' HO_5.out).2.2 (ji10) p151 q151
              cases e151
              replace p151 := eq_true p151
              replace q151 := eq_true q151
              have p15 : 0 ≤ (x6_1 : Int) := of_decide_eq_true z26_
              have q15 : x6_1 < (a0.size : Int) := of_decide_eq_true z26_
              have hx15 := bt_at a0 x6_1
              replace p15 := eq_true p15
              replace q15 := eq_true q15
              have p17 : 0 ≤ (x7_2 : Int) := of_decide_eq_true z26_
              have q17 : x7_2 < (a1.size : Int) := of_decide_eq_true z26_
              have hx17 := bt_at a1 x7_2
              replace p17 := eq_true p17
              replace q17 := eq_true q17
              have p18 : 0 ≤ ((ji10) : Int) := of_decide_eq_true z26_
              have q18 : ((ji10) : Int) < ((x5_2.length : Int) : Int) := of_decide_eq_true z26_
              obtain ⟨go18, co18, eo18, gb18, gl18, cl18, HG18⟩ := Kd.R_form HO_5.out (by omega)
              (first | cases eo18 | (injection eo18 with ea_ en_ ec_; (first | subst ea_ | (injection ea_ with ea_; subst ea_)); subst ec_; clear en_))
              have GB18 := Aside0.mk gb18
              have GG18 := Aside0.mk HG18
              clear gb18 gl18 HG18
              (first | simp only [add_plain] at hx151_0 | skip)
              obtain ⟨hx18_0, hf18_0⟩ := Kd.R_celln 0 HO_5.out ((ji10) : Int) p18 q18
              replace p18 := eq_true p18
              replace q18 := eq_true q18
              have HP21 := Kd.R_putn HO_5.out ((ji10) : Int) (wrap64 ((rd x5_2 (ji10)) + (wrap64 ((((bt a0 x6_1) - 48) % 256) * (((bt a1 x7_2) - 48) % 256)))))
              rw [← Ny152.out] at HP21
              have HQ21 := Aside0.mk HP21
              clear HP21
              refine start_ (n := 21) (S := fun w' => w'.cell? ⟨go18, ((ji10)).toNat, none⟩ = some (.int .i64 (rd x5_2 (ji10)))) (ds := [20]) #[false, false, false, false, false, false, false, false, false, false, false, false, false, false, false, false, false, false, false, false, false] (by kernel_rfl) rfl rfl (hx151_0) (fun hHeld => ?_); refine with_tabW metrolabref01_product.tab8 metrolabref01_product.bits8 (fun HT_ HW_ => ?_)
              generalize wr.drew = w19 at HO_5 HB GG18 HQ21 hf18_0 hx151_0 hx18_0 hHeld ⊢
              refine pu_ (i := 0) (N := some 29) #[true, false, false, false, false, false, false, false, false, false, false, false, false, false, false, false, false, false, false, false, false] HT_.out ?_
              refine pu_ (i := 1) (N := some 30) #[true, true, false, false, false, false, false, false, false, false, false, false, false, false, false, false, false, false, false, false, false] HT_.out ?_
              refine pu_ (i := 2) (N := some 31) #[true, true, true, false, false, false, false, false, false, false, false, false, false, false, false, false, false, false, false, false, false] HT_.out ?_
              refine pu_ (i := 3) (N := some 32) #[true, true, true, true, false, false, false, false, false, false, false, false, false, false, false, false, false, false, false, false, false] HT_.out ?_
              refine pu_ (i := 4) (N := some 33) #[true, true, true, true, true, false, false, false, false, false, false, false, false, false, false, false, false, false, false, false, false] HT_.out ?_
              refine pu_ (i := 5) (N := some 34) #[true, true, true, true, true, true, false, false, false, false, false, false, false, false, false, false, false, false, false, false, false] HT_.out ?_
              refine pu_ (i := 7) (N := some 36) #[true, true, true, true, true, true, false, true, false, false, false, false, false, false, false, false, false, false, false, false, false] HT_.out ?_
              refine pu_ (i := 8) (N := some 37) #[true, true, true, true, true, true, false, true, true, false, false, false, false, false, false, false, false, false, false, false, false] HT_.out ?_
              refine pu_ (i := 12) (N := some 41) #[true, true, true, true, true, true, false, true, true, false, false, false, true, false, false, false, false, false, false, false, false] HT_.out ?_
              refine pu_ (i := 13) (N := some 42) #[true, true, true, true, true, true, false, true, true, false, false, false, true, true, false, false, false, false, false, false, false] HT_.out ?_
              refine take_ (i := 6) (N := some 35) (v := ?_) (a' := ?_) #[true, true, true, true, true, true, true, true, true, false, false, false, true, true, false, false, false, false, false, false, false] rfl rfl (take_ofW HT_.out HW_.out (by kernel_rfl)) (fun _ _ _ h => h) (Or.inl ⟨by rfl, ?_⟩) hHeld ?_ ?_
              rotate_left
              ·intro w' s0
               go_simp
               with_reducible rfl
              rotate_left
              ·simp only [Act.put, List.setIfInBounds_toArray, List.set_cons_zero, List.set_cons_succ, i64_w, i32_w]
               rfl
              refine take_ (i := 9) (N := some 38) (v := ?_) (a' := ?_) #[true, true, true, true, true, true, true, true, true, true, false, false, true, true, false, false, false, false, false, false, false] rfl rfl (take_ofW HT_.out HW_.out (by kernel_rfl)) (fun _ _ _ h => h) (Or.inl ⟨by rfl, ?_⟩) hHeld ?_ ?_
              rotate_left
              ·intro w' s0
               go_simp
               with_reducible rfl
              rotate_left
              ·simp only [Act.put, List.setIfInBounds_toArray, List.set_cons_zero, List.set_cons_succ, i64_w, i32_w]
               rfl
              refine pu_ (i := 10) (N := some 39) #[true, true, true, true, true, true, true, true, true, true, true, false, true, true, false, false, false, false, false, false, false] HT_.out ?_
              refine pu_ (i := 11) (N := some 40) #[true, true, true, true, true, true, true, true, true, true, true, true, true, true, false, false, false, false, false, false, false] HT_.out ?_
              refine take_ (i := 14) (N := some 43) (v := ?_) (a' := ?_) #[true, true, true, true, true, true, true, true, true, true, true, true, true, true, true, false, false, false, false, false, false] rfl rfl (take_ofW HT_.out HW_.out (by kernel_rfl)) (fun _ _ _ h => h) (Or.inl ⟨by rfl, ?_⟩) hHeld ?_ ?_
              rotate_left
              ·intro w' s0
               go_simp
               with_reducible rfl
              rotate_left
              ·simp only [Act.put, List.setIfInBounds_toArray, List.set_cons_zero, List.set_cons_succ, i64_w, i32_w]
               rfl
              refine pu_ (i := 15) (N := some 44) #[true, true, true, true, true, true, true, true, true, true, true, true, true, true, true, true, false, false, false, false, false] HT_.out ?_
              refine pu_ (i := 16) (N := some 45) #[true, true, true, true, true, true, true, true, true, true, true, true, true, true, true, true, true, false, false, false, false] HT_.out ?_
              refine pu_ (i := 17) (N := some 46) #[true, true, true, true, true, true, true, true, true, true, true, true, true, true, true, true, true, true, false, false, false] HT_.out ?_
              refine pu_ (i := 18) (N := some 47) #[true, true, true, true, true, true, true, true, true, true, true, true, true, true, true, true, true, true, true, false, false] HT_.out ?_
              refine pu_ (i := 19) (N := some 48) #[true, true, true, true, true, true, true, true, true, true, true, true, true, true, true, true, true, true, true, true, false] HT_.out ?_
              refine last_ (i := 20) (N := none) #[true, true, true, true, true, true, true, true, true, true, true, true, true, true, true, true, true, true, true, true, true] rfl rfl (one_of HT_.out (by kernel_rfl)) (by decide) (fun K hK => ?_)
              refine skip_ (w1 := ?_) (by rfl) rfl ?_ ?_
              rotate_left
              ·go_simp
               rfl
              refine hK.out _ _ ?_
              clear hK K
              refine done_ (done_of HT_.out (by kernel_rfl)) ?_
              try go_wp2
              go_roundg k2
              case measure => have := HK1.out; have := HK2.out; omega
              case rel => exact ⟨(y152), (wrap64 (x7_2 + 1)), z25_, H', ⟨by have := HK1.out; have := HK2.out; omega⟩, ⟨by (with_reducible repeat (first | apply Kd.R_alloc | apply Kd.R_drewN | apply Kd.R_drew)); first | exact HQ21.out | (simp only [w64_m256]; exact HQ21.out)⟩, ⟨by repeat (first | (with_reducible first | exact HB.out | apply below_alloc | apply pw_below_drewN | apply below_drew1 | refine Go.Proofs.YtkdpcgmnkifbbaaGreatDoorW.PrintWords.below_set ?_ GB18.out) | exact HB.out)⟩⟩
             ·rw [if_neg c16] at H
              exact absurd H (by simp)
            ·rw [if_neg c14] at H
             exact absurd H (by simp)
           ·rw [if_neg c13] at H
            exact absurd H (by simp)
          ·rw [if_neg c12] at H
           exact absurd H (by simp)
         ·rw [if_neg c11] at H
          exact absurd H (by simp)
        ·rw [if_neg c9] at H
         have c9b0 : decide (x7_2 < (a1.size : Int)) = false := decide_eq_false c9
         clear c9
         have H' := Aside0.mk H
         clear H
         go_wp2
         go_roundg k2
         case measure => have := HK1.out; have := HK2.out; omega
         case rel => exact ⟨(x5_2), (wrap64 (x6_1 + 1)), z25_, H', ⟨by have := HK1.out; have := HK2.out; omega⟩, ⟨by (with_reducible repeat (first | apply Kd.R_alloc | apply Kd.R_drewN | apply Kd.R_drew)); first | exact HO_5.out | (simp only [w64_m256]; exact HO_5.out)⟩, ⟨by repeat (first | (with_reducible first | exact HB.out | apply below_alloc | apply pw_below_drewN | apply below_drew1) | exact HB.out)⟩⟩
     ·rw [if_neg c8] at H
      have c8b0 : decide (x6_1 < (a0.size : Int)) = false := decide_eq_false c8
      clear c8
      by_cases c22 : 0 ≤ (x5_1.length : Int)
      ·rw [if_pos c22] at H
       have c22b0 := eq_true c22
       have c22b1 : decide (0 ≤ (x5_1.length : Int)) = true := decide_eq_true c22
       clear c22
       by_cases c23 : ((x5_1.length : Int) : Int).toNat ≤ 281474976710656
       ·rw [if_pos c23] at H
        have c23b0 := eq_true c23
        have c23b1 : decide (((x5_1.length : Int) : Int).toNat ≤ 281474976710656) = true := decide_eq_true c23
        clear c23
        obtain ⟨y153, hy153⟩ : ∃ y_ : List Int, y_ = (List.replicate ((x5_1.length : Int) : Int).toNat 0) := ⟨_, rfl⟩
        replace H : (metrolabref01_product.l2 k1 x5_1 y153 0 (wrap64 ((x5_1.length : Int) - 1))) = some r := by first | (rw [hy153]; with_reducible exact H) | (have H2_ := (Option.bind_some _ _).symm.trans H; rw [hy153]; with_reducible exact H2_) | (have H2_ := (Option.bind_some _ _).symm.trans H; with_reducible exact H2_) | with_reducible exact H | (rw [hy153]; exact H) | exact H
        have Ny153 := Aside0.mk hy153
        clear hy153
        have H' := Aside0.mk H
        clear H
        obtain ⟨Ao24, co24, eo24⟩ := Kd.R_slice HO_5.out
        subst eo24
        go_wp2_with (first | ((with_reducible refine gate_dst (N := 51) rfl ?_); refine Kd.R_make (Kd.int .u8) _ 5 rfl (N := 51) rfl 161 _ _ rfl (x5_1.length : Int) rfl rfl Tryz.underlying161 (.int .u8 0) 1 info5 rfl (by decide) (by omega) 0 (ok := fun _ => True) (okp := fun _ => True) rfl (fun _ hk => hk) trivial (of_decide_eq_true z26_) (Nat.le_trans (Nat.mul_le_mul_right _ (of_decide_eq_true z26_ : (x5_1.length : Int).toNat ≤ 281474976710656)) (by omega)) (Below.refl _ _) (Nat.le_refl _) ?_; intro v154 w25 ho26 hb hg_ hnew_; clear hg_ hnew_; (first | rw [← Ny153.out] at ho26 | (simp only [Int.reduceToNat] at ho26; rw [← Ny153.out] at ho26)); have n0_ := Aside0.mk (Kd.R_below z20_ hb); have n1_ := Aside0.mk (Kd.R_lower ho26 (below_size z10_)); have n2_ := Aside0.mk (below_step z10_ hb); clear HO_5; clear HB; have HO_5 := n0_; have HO155 := n1_; have HB := n2_; clear n0_ n1_ n2_; clear hb ho26))
        go_loopg [9, 10] k1 (fun kq v9 v10 w' => ∃ (x8_2 : List Int) (x9_2 : Int) (x10_2 : Int), v9 = .int .i64 x9_2 ∧ v10 = .int .i64 x10_2 ∧ Aside0 (metrolabref01_product.l2 kq x5_1 x8_2 x9_2 x10_2 = some r) ∧ Aside0 (kq ≤ k1) ∧ Aside0 (Kd.R (Kd.int .i64) 3 w' w.heap.size (fun _ => True) (.slice Ao24 x5_1.length co24) x5_1) ∧ Aside0 (Kd.R (Kd.int .u8) 5 w' w.heap.size (fun _ => True) v154 x8_2) ∧ Aside0 (Below w.heap.size w w'))
        case atStart => exact ⟨(y153), (0), (wrap64 ((x5_1.length : Int) - 1)), z25_, z25_, H', ⟨Nat.le_refl _⟩, ⟨by (with_reducible repeat (first | apply Kd.R_alloc | apply Kd.R_drewN | apply Kd.R_drew)); first | exact HO_5.out | (simp only [w64_m256]; exact HO_5.out)⟩, ⟨by (with_reducible repeat (first | apply Kd.R_alloc | apply Kd.R_drewN | apply Kd.R_drew)); first | exact HO155.out | (simp only [w64_m256]; exact HO155.out)⟩, ⟨by repeat (first | (with_reducible first | exact HB.out | apply below_alloc | apply pw_below_drewN | apply below_drew1) | exact HB.out)⟩⟩
        case round =>
         clear H'
         try clear c1
         try clear p1
         try clear q1
         try clear hx1
         try clear c2
         try clear p2
         try clear c4
         try clear c4b0
         try clear c4b1
         try clear c5
         try clear c5b0
         try clear c5b1
         try clear p6
         try clear c8
         try clear c8b0
         try clear c9
         try clear c9b0
         try clear c11
         try clear c11b0
         try clear c12
         try clear c12b0
         try clear c13
         try clear c13b0
         try clear c14
         try clear c14b0
         try clear p15
         try clear q15
         try clear hx15
         try clear c16
         try clear c16b0
         try clear p17
         try clear q17
         try clear hx17
         try clear p18
         try clear q18
         try clear hx18
         try clear hf18
         try clear c22
         try clear c22b0
         try clear c22b1
         try clear c23
         try clear c23b0
         try clear c23b1
         try clear hx151_0
         try clear hx18_0
         try clear p15
         try clear p151
         try clear p17
         try clear p18
         try clear p2
         try clear p6
         try clear q15
         try clear q151
         try clear q17
         try clear q18
         obtain ⟨x8_2, x9_2, x10_2, rfl, rfl, HA, HK2, HO_5, HO_8, HB⟩ := hrel
         cases gk with
         | zero => exact absurd HA.out (by simp [metrolabref01_product.l2])
         | succ k2 =>
          have H := HA.out
          clear HA
          simp only [metrolabref01_product.l2] at H
          by_cases c27 : x10_2 ≥ 0
          ·rw [if_pos c27] at H
           have c27b0 : decide (0 ≤ x10_2) = true := decide_eq_true c27
           clear c27
           by_cases c28 : 0 ≤ x10_2
           ·rw [if_pos c28] at H
            have c28b0 : decide (0 ≤ x10_2) = true := decide_eq_true c28
            clear c28
            by_cases c29 : x10_2 < (x5_1.length : Int)
            ·rw [if_pos c29] at H
             have c29b0 : decide (x10_2 < (x5_1.length : Int)) = true := decide_eq_true c29
             clear c29
             by_cases c30 : x10_2 < (x8_2.length : Int)
             ·rw [if_pos c30] at H
              have c30b0 : decide (x10_2 < (x8_2.length : Int)) = true := decide_eq_true c30
              clear c30
              obtain ⟨y157, hy157⟩ : ∃ y_ : List Int, y_ = (x8_2.set (x10_2 : Int).toNat ((wrap64 (48 + (Int.tmod (wrap64 (x9_2 + (rd x5_1 x10_2))) 10))) % 256)) := ⟨_, rfl⟩
              replace H : (metrolabref01_product.l2 k2 x5_1 y157 (wrap64 (Int.tdiv (wrap64 (x9_2 + (rd x5_1 x10_2))) 10)) (wrap64 (x10_2 - 1))) = some r := by first | (rw [hy157]; with_reducible exact H) | (have H2_ := (Option.bind_some _ _).symm.trans H; rw [hy157]; with_reducible exact H2_) | (have H2_ := (Option.bind_some _ _).symm.trans H; with_reducible exact H2_) | with_reducible exact H | (rw [hy157]; exact H) | exact H
              have Ny157 := Aside0.mk hy157
              clear hy157
              have H' := Aside0.mk H
              clear H
              have p156 : 0 ≤ (x10_2 : Int) := of_decide_eq_true z26_
              have q156 : x10_2 < (x5_1.length : Int) := of_decide_eq_true z26_
              obtain ⟨ad156, e156, hx156_0⟩ := Kd.at_int (Kd.R_reads' HO_5.out).2.2 x10_2 p156 q156
              cases e156
              replace p156 := eq_true p156
              replace q156 := eq_true q156
              have p31 : 0 ≤ (x10_2 : Int) := of_decide_eq_true z26_
              have q31 : (x10_2 : Int) < ((x8_2.length : Int) : Int) := of_decide_eq_true z26_
              obtain ⟨go31, co31, eo31, gb31, gl31, cl31, HG31⟩ := Kd.R_form HO_8.out (by omega)
              (first | cases eo31 | (injection eo31 with ea_ en_ ec_; (first | subst ea_ | (injection ea_ with ea_; subst ea_)); subst ec_; clear en_))
              have GB31 := Aside0.mk gb31
              have GG31 := Aside0.mk HG31
              clear gb31 gl31 HG31
              obtain ⟨hx31_0, hf31_0⟩ := Kd.R_celln 0 HO_8.out (x10_2 : Int) p31 q31
              replace p31 := eq_true p31
              replace q31 := eq_true q31
              have HP32 := Kd.R_putg HO_8.out (x10_2 : Int) ((wrap64 (48 + (Int.tmod (wrap64 (x9_2 + (rd x5_1 x10_2))) 10))) % 256)
              go_wp2_with (first | ((with_reducible refine gate_store (t := 5) (p := 71) rfl ?_); refine store_event (t := 5) (p := 71) (v := ?vo_w33) (w1 := (wr.setCell ⟨go31, (x10_2 : Int).toNat, none⟩ (.int .u8 ((wrap64 (48 + (Int.tmod (wrap64 (x9_2 + (rd x5_1 x10_2))) 10))) % 256)))) ?hg ?ho ?hn ?hr ?_; (case ho => rfl); (case hg => rfl); (case hn => rfl); (case hr => first | (go_simp; done) | (go_simp; rfl)); intro w33 hw; have hg : wr.grownBy w33 (some go31) := (by rw [hw]; exact HP32.2); have hp_ : Kd.R (Kd.int .u8) 5 w33 w.heap.size (fun _ => True) (.slice (some ⟨go31, 0, none⟩) x8_2.length co31) y157 := (by rw [hw, Ny157.out]; exact HP32.1); clear HP32; have n0_ := Aside0.mk (Kd.R_over' (v := (.slice (some ⟨go31, 0, none⟩) x8_2.length co31)) z20_ (Kd.R_typed HO_8.out) (by decide) hg); have n1_ := Aside0.mk (hp_); have n2_ := Aside0.mk ((by rw [hw]; exact Go.Proofs.YtkdpcgmnkifbbaaGreatDoorW.PrintWords.below_set (HB.out) GB31.out : Below w.heap.size w w33)); clear HO_5; clear HO_8; clear HB; have HO_5 := n0_; have HO_8 := n1_; have HB := n2_; clear n0_ n1_ n2_; clear hg hw hp_))
              go_roundg k2
              case measure => have := HK1.out; have := HK2.out; omega
              case rel => exact ⟨(y157), (wrap64 (Int.tdiv (wrap64 (x9_2 + (rd x5_1 x10_2))) 10)), (wrap64 (x10_2 - 1)), z25_, z25_, H', ⟨by have := HK1.out; have := HK2.out; omega⟩, ⟨by (with_reducible repeat (first | apply Kd.R_alloc | apply Kd.R_drewN | apply Kd.R_drew)); first | exact HO_5.out | (simp only [w64_m256]; exact HO_5.out)⟩, ⟨by (with_reducible repeat (first | apply Kd.R_alloc | apply Kd.R_drewN | apply Kd.R_drew)); first | exact HO_8.out | (simp only [w64_m256]; exact HO_8.out)⟩, ⟨by repeat (first | (with_reducible first | exact HB.out | apply below_alloc | apply pw_below_drewN | apply below_drew1) | exact HB.out)⟩⟩
             ·rw [if_neg c30] at H
              exact absurd H (by simp)
            ·rw [if_neg c29] at H
             exact absurd H (by simp)
           ·rw [if_neg c28] at H
            exact absurd H (by simp)
          ·rw [if_neg c27] at H
           have c27b0 : decide (0 ≤ x10_2) = false := decide_eq_false c27
           clear c27
           obtain ⟨t158, A34, H⟩ := bindA H
           obtain rfl := Option.some.inj H
           have hcv35 := own_string (P := Tryz.prog) Tryz.underlying161 Tryz.underlying5 Tryz.underlying9 (Kd.own_of_R HO_8.out)
           go_wp2_with (first | (refine gz (f := 141) rfl (some 76) rfl Tryz.func141 (metrolabref01_bare.calls k2 (strOfNums x8_2) t158 _ A34.out) ?_; rintro w' ⟨nd, rfl⟩))
           go_ret
           exact ⟨by first | rfl | (simp [errW_none, errW_some] <;> rfl) | (simp only [← hji3]; first | rfl | (simp [errW_none, errW_some] <;> rfl)) | (simp [*, errW_none, errW_some] <;> rfl), z10_⟩
       ·rw [if_neg c23] at H
        exact absurd H (by simp)
      ·rw [if_neg c22] at H
       exact absurd H (by simp)
  ·rw [if_neg c5] at H
   exact absurd H (by simp)
 ·rw [if_neg c4] at H
  exact absurd H (by simp)
end Go.Proofs.YtkdpcgmnkifbbaaGreatDoor.R
