/- Joined by a program of this session out of its texts, with only what the last theorem needs: Rx4. No conditions but those stated. -/
import Derived.Test.YtkdpcgmnkifbbaaGreatDoorZC08
import Derived.Test.YtkdpcgmnkifbbaaGreatDoorZC09
import Derived.Test.YtkdpcgmnkifbbaaGreatDoorZC10
import Derived.Test.YtkdpcgmnkifbbaaGreatDoorZC11
set_option linter.unusedVariables false
set_option linter.unusedSimpArgs false
namespace Go.Proofs.YtkdpcgmnkifbbaaGreatDoorW.PrintLast
end Go.Proofs.YtkdpcgmnkifbbaaGreatDoorW.PrintLast
namespace Go.Proofs.YtkdpcgmnkifbbaaGreatDoorW.PrintMore
end Go.Proofs.YtkdpcgmnkifbbaaGreatDoorW.PrintMore
namespace Go.Proofs.YtkdpcgmnkifbbaaGreatDoorW.PrintWords
end Go.Proofs.YtkdpcgmnkifbbaaGreatDoorW.PrintWords
namespace Go.Proofs.YtkdpcgmnkifbbaaGreatDoor.R
open Go.RowKit Go.Proofs.YtkdpcgmnkifbbaaGreatDoorW.PrintWords Go.Proofs.YtkdpcgmnkifbbaaGreatDoorW.PrintLast Go.Proofs.YtkdpcgmnkifbbaaGreatDoorW.PrintMore
attribute [local go_sem] max2_int min2_int max_two min_two max_three min_three max_four min_four
set_option linter.unusedVariables false
set_option linter.unusedSimpArgs false
def metrolabref01_Times.j0 : Nat → ByteArray → ByteArray → Int → Int → Bool → Option (ByteArray)
 | 0, _, _, _, _, _ => none
 | k + 1, x0, x1, x5, x6, x23 => if x23 = true then ((metrolabref01_Of.f k (wrap64 (x5 * x6))).bind fun t162 => (some t162)) else ((metrolabref01_size.f x0).bind fun t163 => ((metrolabref01_size.f x1).bind fun t164 => ((metrolabref01_product.f k t163 t164).bind fun t165 => ((metrolabref01_Below.f x0).bind fun t166 => ((metrolabref01_Below.f x1).bind fun t167 => ((metrolabref01_signed.f t165 (t166 != t167)).bind fun t168 => (some t168)))))))
def metrolabref01_Times.f (k : Nat) (a0 : ByteArray) (a1 : ByteArray) : Option (ByteArray) := (metrolabref01_brief.f k a0 a1).bind fun bt159 => (if bt159.2.2 = true then (metrolabref01_Times.j0 k a0 a1 bt159.1 bt159.2.1 (decide ((wrap64 ((a0.size : Int) + (a1.size : Int))) ≤ 18))) else (metrolabref01_Times.j0 k a0 a1 bt159.1 bt159.2.1 false))
set_option maxHeartbeats 8000000 in
set_option maxRecDepth 100000 in
theorem metrolabref01_Times.calls (k : Nat) (a0 : ByteArray) (a1 : ByteArray) (r : ByteArray) (w : World) (h : metrolabref01_Times.f k a0 a1 = some r) :
  Calls Tryz.prog 97 #[.string a0, .string a1] w fun e w' => e = .returned (.string r) ∧ Below w.heap.size w w' := by
 have HB := Aside0.mk (Below.refl w.heap.size w)
 have H : ((metrolabref01_brief.f k a0 a1).bind fun bt159 => (if bt159.2.2 = true then (metrolabref01_Times.j0 k a0 a1 bt159.1 bt159.2.1 (decide ((wrap64 ((a0.size : Int) + (a1.size : Int))) ≤ 18))) else (metrolabref01_Times.j0 k a0 a1 bt159.1 bt159.2.1 false))) = some r := h
 clear h
 obtain ⟨⟨t159, t160, t161⟩, A3, H⟩ := bindA H
 dsimp only at H
 have HC4 := Aside0.mk H
 clear H
 go_enter Tryz.func97, Tryz.ntmps97
 go_upto_region 2 with (first | (refine gz (f := 105) rfl (some 11) rfl Tryz.func105 (metrolabref01_brief.calls k a0 a1 t159 t160 t161 _ A3.out) ?_; rintro w' ⟨nd, rfl⟩))
 (try simp only [Act.put, List.setIfInBounds_toArray, List.set_cons_zero, List.set_cons_succ])
 go_cut [23] (fun v23 wc => ∃ (kq : Nat) (x23_3 : Bool), v23 = .bool x23_3 ∧ Aside0 (metrolabref01_Times.j0 kq a0 a1 t159 t160 x23_3 = some r) ∧ Aside0 (kq ≤ k) ∧ Aside0 (Below w.heap.size w wc))
 case first =>
  have H := HC4.out
  clear HC4
  by_cases c5 : t161 = true
  ·subst c5
   rw [if_pos rfl] at H
   have H' := Aside0.mk H
   clear H
   go_wp2
   go_meet
   case rel => exact ⟨_, (decide ((wrap64 ((a0.size : Int) + (a1.size : Int))) ≤ 18)), z25_, H', ⟨by first | omega | exact Nat.le_refl _⟩, ⟨by repeat (first | (with_reducible first | exact HB.out | apply below_alloc | apply pw_below_drewN | apply below_drew1) | exact HB.out)⟩⟩
  ·replace c5 := Bool.eq_false_iff.mpr c5
   subst c5
   rw [if_neg (show ¬ (false = true) by decide)] at H
   have H' := Aside0.mk H
   clear H
   go_wp2
   go_meet
   case rel => exact ⟨_, (false), z25_, H', ⟨by first | omega | exact Nat.le_refl _⟩, ⟨by repeat (first | (with_reducible first | exact HB.out | apply below_alloc | apply pw_below_drewN | apply below_drew1) | exact HB.out)⟩⟩
 case rest =>
  clear HC4
  try clear c1
  try clear p2
  try clear c5
  obtain ⟨kq, x23_3, rfl, HA, HJ3, HB⟩ := hcut
  cases kq with
  | zero => exact absurd HA.out (by simp [metrolabref01_Times.j0])
  | succ kj3 =>
   have H := HA.out
   clear HA
   simp only [metrolabref01_Times.j0] at H
   by_cases c6 : x23_3 = true
   ·subst c6
    rw [if_pos rfl] at H
    obtain ⟨t162, A7, H⟩ := bindA H
    obtain rfl := Option.some.inj H
    go_wp2_with (first | (refine gy (f := 106) rfl (some 27) rfl Tryz.func106 (metrolabref01_Of.calls kj3 (wrap64 (t159 * t160)) t162 _ A7.out) z10_ ?_; clear HB; intro w8 HB))
    go_ret
    exact ⟨z24_, z10_⟩
   ·replace c6 := Bool.eq_false_iff.mpr c6
    subst c6
    rw [if_neg (show ¬ (false = true) by decide)] at H
    obtain ⟨t163, A9, H⟩ := bindA H
    obtain ⟨t164, A10, H⟩ := bindA H
    obtain ⟨t165, A11, H⟩ := bindA H
    obtain ⟨t166, A12, H⟩ := bindA H
    obtain ⟨t167, A13, H⟩ := bindA H
    obtain ⟨t168, A14, H⟩ := bindA H
    obtain rfl := Option.some.inj H
    go_wp2_with (first | (refine gz (f := 90) rfl (some 29) rfl Tryz.func90 (metrolabref01_size.calls a0 t163 _ A9.out) ?_; rintro w' ⟨nd, rfl⟩) | (refine gz (f := 90) rfl (some 31) rfl Tryz.func90 (metrolabref01_size.calls a1 t164 _ A10.out) ?_; rintro w' ⟨nd, rfl⟩) | (refine gy (f := 135) rfl (some 32) rfl Tryz.func135 (metrolabref01_product.calls kj3 t163 t164 t165 _ A11.out) z10_ ?_; clear HB; intro w15 HB) | (refine gz (f := 92) rfl (some 34) rfl Tryz.func92 (metrolabref01_Below.calls a0 t166 _ A12.out) ?_; rintro w' ⟨nd, rfl⟩) | (refine gz (f := 92) rfl (some 36) rfl Tryz.func92 (metrolabref01_Below.calls a1 t167 _ A13.out) ?_; rintro w' ⟨nd, rfl⟩) | (refine gz (f := 104) rfl (some 38) rfl Tryz.func104 (metrolabref01_signed.calls t165 (t166 != t167) t168 _ A14.out) ?_; rintro w' ⟨nd, rfl⟩))
    go_ret
    exact ⟨z24_, z10_⟩
def metrolabref01_Order.f (k : Nat) (a0 : ByteArray) (a1 : ByteArray) : Option (Int) := (metrolabref01_Minus.f k a0 a1).bind fun t169 => (if t169.toList = ([48] : List UInt8) then (some 0) else ((metrolabref01_Below.f t169).bind fun t170 => (if t170 = true then (some (-1)) else (some 1))))
set_option maxHeartbeats 8000000 in
set_option maxRecDepth 100000 in
theorem metrolabref01_Order.calls (k : Nat) (a0 : ByteArray) (a1 : ByteArray) (r : Int) (w : World) (h : metrolabref01_Order.f k a0 a1 = some r) :
  Calls Tryz.prog 52 #[.string a0, .string a1] w fun e w' => e = .returned (.int .i64 r) ∧ Below w.heap.size w w' := by
 have HB := Aside0.mk (Below.refl w.heap.size w)
 have H : ((metrolabref01_Minus.f k a0 a1).bind fun t169 => (if t169.toList = ([48] : List UInt8) then (some 0) else ((metrolabref01_Below.f t169).bind fun t170 => (if t170 = true then (some (-1)) else (some 1))))) = some r := h
 clear h
 obtain ⟨t169, A3, H⟩ := bindA H
 by_cases c4 : t169.toList = ([48] : List UInt8)
 ·rw [if_pos c4] at H
  have c4b0 := beq_iff_eq.mpr c4
  have c4b1 := bne_eq_false_iff_eq.mpr c4
  clear c4
  obtain rfl := Option.some.inj H
  go_enter Tryz.func52, Tryz.ntmps52
  go_wp2_with (first | (refine gy (f := 91) rfl (some 8) rfl Tryz.func91 (metrolabref01_Minus.calls k a0 a1 t169 _ A3.out) z10_ ?_; clear HB; intro w5 HB))
  go_ret
  exact ⟨z24_, z10_⟩
 ·rw [if_neg c4] at H
  have c4b0 := beq_eq_false_iff_ne.mpr c4
  have c4b1 := bne_iff_ne.mpr c4
  obtain ⟨t170, A6, H⟩ := bindA H
  by_cases c7 : t170 = true
  ·subst c7
   rw [if_pos rfl] at H
   obtain rfl := Option.some.inj H
   go_enter Tryz.func52, Tryz.ntmps52
   go_wp2_with (first | (refine gy (f := 91) rfl (some 8) rfl Tryz.func91 (metrolabref01_Minus.calls k a0 a1 t169 _ A3.out) z10_ ?_; clear HB; intro w8 HB) | (refine gz (f := 92) rfl (some 12) rfl Tryz.func92 (metrolabref01_Below.calls t169 true _ A6.out) ?_; rintro w' ⟨nd, rfl⟩))
   go_ret
   exact ⟨z24_, z10_⟩
  ·replace c7 := Bool.eq_false_iff.mpr c7
   subst c7
   rw [if_neg (show ¬ (false = true) by decide)] at H
   obtain rfl := Option.some.inj H
   go_enter Tryz.func52, Tryz.ntmps52
   go_wp2_with (first | (refine gy (f := 91) rfl (some 8) rfl Tryz.func91 (metrolabref01_Minus.calls k a0 a1 t169 _ A3.out) z10_ ?_; clear HB; intro w9 HB) | (refine gz (f := 92) rfl (some 12) rfl Tryz.func92 (metrolabref01_Below.calls t169 false _ A6.out) ?_; rintro w' ⟨nd, rfl⟩))
   go_ret
   exact ⟨z24_, z10_⟩
mutual
def metrolabref01_divided.l0 : Nat → ByteArray → ByteArray → ByteArray → ByteArray → Int → Option (ByteArray × ByteArray)
 | 0, _, _, _, _, _ => none
 | k + 1, x0, x1, x6, x7, x8 => if x8 < (x0.size : Int) then (if 0 ≤ x8 then (if x8 ≤ (wrap64 (x8 + 1)) then (if (wrap64 (x8 + 1)) ≤ (x0.size : Int) then (if x7.size + (x0.extract (x8 : Int).toNat ((wrap64 (x8 + 1)) : Int).toNat).size ≤ 9223372036854775807 then ((metrolabref01_bare.f k (x7 ++ (x0.extract (x8 : Int).toNat ((wrap64 (x8 + 1)) : Int).toNat))).bind fun t172 => (metrolabref01_divided.l1 k x0 x1 x6 t172 x8 48)) else (none)) else (none)) else (none)) else (none)) else ((metrolabref01_bare.f k x6).bind fun t171 => (some (t171, x7)))
def metrolabref01_divided.l1 : Nat → ByteArray → ByteArray → ByteArray → ByteArray → Int → Int → Option (ByteArray × ByteArray)
 | 0, _, _, _, _, _, _ => none
 | k + 1, x0, x1, x6, x7, x8, x9 => (metrolabref01_less.f x7 x1).bind fun t173 => (if t173 = true then ((some (([x9] : List Int) : List Int)).bind fun y174 => (if x6.size + (strOfNums y174).size ≤ 9223372036854775807 then (metrolabref01_divided.l0 k x0 x1 (x6 ++ (strOfNums y174)) x7 (wrap64 (x8 + 1))) else (none))) else ((metrolabref01_paper.f k x7 x1 false).bind fun t177 => (metrolabref01_divided.l1 k x0 x1 x6 t177 x8 ((x9 + 1) % 256))))
end
def metrolabref01_divided.f (k : Nat) (a0 : ByteArray) (a1 : ByteArray) : Option (ByteArray × ByteArray) := metrolabref01_divided.l0 k a0 a1 (⟨#[]⟩ : ByteArray) (⟨#[48]⟩ : ByteArray) 0
set_option maxHeartbeats 8000000 in
set_option maxRecDepth 100000 in
theorem metrolabref01_divided.calls (k : Nat) (a0 : ByteArray) (a1 : ByteArray) (r1 : ByteArray) (r2 : ByteArray) (w : World) (h : metrolabref01_divided.f k a0 a1 = some (r1, r2)) :
  Calls Tryz.prog 107 #[.string a0, .string a1] w fun e w' => e = .returned (.tuple #[.string r1, .string r2]) ∧ Below w.heap.size w w' := by
 have HB := Aside0.mk (Below.refl w.heap.size w)
 have H : (metrolabref01_divided.l0 k a0 a1 (⟨#[]⟩ : ByteArray) (⟨#[48]⟩ : ByteArray) 0) = some (r1, r2) := h
 clear h
 have H' := Aside0.mk H
 clear H
 go_enter Tryz.func107, Tryz.ntmps107
 go_wp2
 go_loopg [6, 7, 8] k (fun kq v6 v7 v8 w' => ∃ (x6_1 : ByteArray) (x7_1 : ByteArray) (x8_1 : Int), v6 = .string x6_1 ∧ v7 = .string x7_1 ∧ v8 = .int .i64 x8_1 ∧ Aside0 (metrolabref01_divided.l0 kq a0 a1 x6_1 x7_1 x8_1 = some (r1, r2)) ∧ Aside0 (kq ≤ k) ∧ Aside0 (Below w.heap.size w w'))
 case atStart => exact ⟨((⟨#[]⟩ : ByteArray)), ((⟨#[48]⟩ : ByteArray)), (0), z25_, z25_, z25_, H', ⟨Nat.le_refl _⟩, ⟨by repeat (first | (with_reducible first | exact HB.out | apply below_alloc | apply pw_below_drewN | apply below_drew1) | exact HB.out)⟩⟩
 case round =>
  clear H'
  try clear c1
  try clear p2
  obtain ⟨x6_1, x7_1, x8_1, rfl, rfl, rfl, HA, HK1, HB⟩ := hrel
  cases gk with
  | zero => exact absurd HA.out (by simp [metrolabref01_divided.l0])
  | succ k1 =>
   have H := HA.out
   clear HA
   simp only [metrolabref01_divided.l0] at H
   by_cases c3 : x8_1 < (a0.size : Int)
   ·rw [if_pos c3] at H
    have c3b0 : decide (x8_1 < (a0.size : Int)) = true := decide_eq_true c3
    clear c3
    by_cases c4 : 0 ≤ x8_1
    ·rw [if_pos c4] at H
     have c4b0 := eq_true c4
     have c4b1 : decide (0 ≤ x8_1) = true := decide_eq_true c4
     clear c4
     by_cases c5 : x8_1 ≤ (wrap64 (x8_1 + 1))
     ·rw [if_pos c5] at H
      have c5b0 := eq_true c5
      have c5b1 : decide (x8_1 ≤ (wrap64 (x8_1 + 1))) = true := decide_eq_true c5
      by_cases c6 : (wrap64 (x8_1 + 1)) ≤ (a0.size : Int)
      ·rw [if_pos c6] at H
       have c6b0 := eq_true c6
       have c6b1 : decide ((wrap64 (x8_1 + 1)) ≤ (a0.size : Int)) = true := decide_eq_true c6
       by_cases c7 : x7_1.size + (a0.extract (x8_1 : Int).toNat ((wrap64 (x8_1 + 1)) : Int).toNat).size ≤ 9223372036854775807
       ·rw [if_pos c7] at H
        have c7b0 := eq_true c7
        have c7b1 : decide (x7_1.size + (a0.extract (x8_1 : Int).toNat ((wrap64 (x8_1 + 1)) : Int).toNat).size ≤ 9223372036854775807) = true := decide_eq_true c7
        try have c7b2 : (9223372036854775807 < x7_1.size + (a0.extract (x8_1 : Int).toNat ((wrap64 (x8_1 + 1)) : Int).toNat).size) = False := eq_false (Nat.not_lt.2 c7)
        obtain ⟨t172, A8, H⟩ := bindA H
        have H' := Aside0.mk H
        clear H
        go_wp2_with (first | (refine gz (f := 141) rfl (some 23) rfl Tryz.func141 (metrolabref01_bare.calls k1 (x7_1 ++ (a0.extract (x8_1 : Int).toNat ((wrap64 (x8_1 + 1)) : Int).toNat)) t172 _ A8.out) ?_; rintro w' ⟨nd, rfl⟩))
        go_loopg [7, 9] k1 (fun kq v7 v9 w' => ∃ (x7_2 : ByteArray) (x9_2 : Int), v7 = .string x7_2 ∧ v9 = .int .u8 x9_2 ∧ Aside0 (metrolabref01_divided.l1 kq a0 a1 x6_1 x7_2 x8_1 x9_2 = some (r1, r2)) ∧ Aside0 (kq ≤ k1) ∧ Aside0 (Below w.heap.size w w'))
        case atStart => exact ⟨(t172), (48), z25_, z25_, H', ⟨Nat.le_refl _⟩, ⟨by repeat (first | (with_reducible first | exact HB.out | apply below_alloc | apply pw_below_drewN | apply below_drew1) | exact HB.out)⟩⟩
        case round =>
         clear H'
         try clear c1
         try clear p2
         try clear c3
         try clear c3b0
         try clear c4
         try clear c4b0
         try clear c4b1
         try clear c5
         try clear c5b0
         try clear c5b1
         try clear c6
         try clear c6b0
         try clear c6b1
         try clear p6
         try clear c7
         try clear c7b0
         try clear c7b1
         try clear c7b2
         try clear p2
         obtain ⟨x7_2, x9_2, rfl, rfl, HA, HK2, HB⟩ := hrel
         cases gk with
         | zero => exact absurd HA.out (by simp [metrolabref01_divided.l1])
         | succ k2 =>
          have H := HA.out
          clear HA
          simp only [metrolabref01_divided.l1] at H
          obtain ⟨t173, A9, H⟩ := bindA H
          by_cases c10 : t173 = true
          ·subst c10
           rw [if_pos rfl] at H
           obtain ⟨y174, hy174⟩ : ∃ y_ : List Int, y_ = (([x9_2] : List Int)) := ⟨_, rfl⟩
           replace H : (if x6_1.size + (strOfNums y174).size ≤ 9223372036854775807 then (metrolabref01_divided.l0 k2 a0 a1 (x6_1 ++ (strOfNums y174)) x7_2 (wrap64 (x8_1 + 1))) else (none)) = some (r1, r2) := by first | (rw [hy174]; with_reducible exact H) | (have H2_ := (Option.bind_some _ _).symm.trans H; rw [hy174]; with_reducible exact H2_) | (have H2_ := (Option.bind_some _ _).symm.trans H; with_reducible exact H2_) | with_reducible exact H | (rw [hy174]; exact H) | exact H
           have Ny174 := Aside0.mk hy174
           clear hy174
           by_cases c11 : x6_1.size + (strOfNums y174).size ≤ 9223372036854775807
           ·rw [if_pos c11] at H
            have c11b0 := eq_true c11
            have c11b1 : decide (x6_1.size + (strOfNums y174).size ≤ 9223372036854775807) = true := decide_eq_true c11
            try have c11b2 : (9223372036854775807 < x6_1.size + (strOfNums y174).size) = False := eq_false (Nat.not_lt.2 c11)
            have H' := Aside0.mk H
            clear H
            go_wp2_with (first | (refine gz (f := 118) rfl (some 26) rfl Tryz.func118 (metrolabref01_less.calls x7_2 a1 true _ A9.out) ?_; rintro w' ⟨nd, rfl⟩) | ((with_reducible refine gate_dst (N := 35) rfl ?_); refine Kd.R_lit (Kd.int .u8) _ 5 ?hg (N := 35) ?hd (xs := ([x9_2] : List Int)) (inner := [.int .u8 x9_2]) (ok := fun _ => True) (okp := fun _ => True) ?hr ?hp (fun _ hk => hk) trivial (Below.refl _ _) (Nat.le_refl _) (by simp) ?_; (case hd => rfl); (case hg => rfl); (case hr => first | (go_simp; done) | (go_simp; rfl)); (case hp => exact (Reps.one (show Kd.M (Kd.int .u8) _ _ _ x9_2 [.int .u8 x9_2] from rfl) (Reps.none _ _))); intro v175 w12 ho13 hb hg_ hnew_; clear hg_ hnew_; (first | rw [← Ny174.out] at ho13 | (simp only [Int.reduceToNat] at ho13; rw [← Ny174.out] at ho13)); have n0_ := Aside0.mk (Kd.R_lower ho13 (below_size z10_)); have n1_ := Aside0.mk (below_step z10_ hb); clear HB; have HO176 := n0_; have HB := n1_; clear n0_ n1_; clear hb ho13; have hcv14 := own_string (P := Tryz.prog) Tryz.underlying161 Tryz.underlying5 Tryz.underlying9 (Kd.own_of_R HO176.out)))
            go_roundg k2
            case measure => have := HK1.out; have := HK2.out; omega
            case rel => exact ⟨(x6_1 ++ (strOfNums y174)), (x7_2), (wrap64 (x8_1 + 1)), z25_, z25_, z25_, H', ⟨by have := HK1.out; have := HK2.out; omega⟩, ⟨by repeat (first | (with_reducible first | exact HB.out | apply below_alloc | apply pw_below_drewN | apply below_drew1) | exact HB.out)⟩⟩
           ·rw [if_neg c11] at H
            exact absurd H (by simp)
          ·replace c10 := Bool.eq_false_iff.mpr c10
           subst c10
           rw [if_neg (show ¬ (false = true) by decide)] at H
           obtain ⟨t177, A15, H⟩ := bindA H
           have H' := Aside0.mk H
           clear H
           go_wp2_with (first | (refine gz (f := 118) rfl (some 26) rfl Tryz.func118 (metrolabref01_less.calls x7_2 a1 false _ A9.out) ?_; rintro w' ⟨nd, rfl⟩) | (refine gy (f := 117) rfl (some 30) rfl Tryz.func117 (metrolabref01_paper.calls k2 x7_2 a1 false t177 _ A15.out) z10_ ?_; clear HB; intro w16 HB))
           go_roundg k2
           case measure => have := HK1.out; have := HK2.out; omega
           case rel => exact ⟨(t177), ((x9_2 + 1) % 256), z25_, z25_, H', ⟨by have := HK1.out; have := HK2.out; omega⟩, ⟨by repeat (first | (with_reducible first | exact HB.out | apply below_alloc | apply pw_below_drewN | apply below_drew1) | exact HB.out)⟩⟩
       ·rw [if_neg c7] at H
        exact absurd H (by simp)
      ·rw [if_neg c6] at H
       exact absurd H (by simp)
     ·rw [if_neg c5] at H
      exact absurd H (by simp)
    ·rw [if_neg c4] at H
     exact absurd H (by simp)
   ·rw [if_neg c3] at H
    have c3b0 : decide (x8_1 < (a0.size : Int)) = false := decide_eq_false c3
    clear c3
    obtain ⟨t171, A17, H⟩ := bindA H
    simp only [Option.some.injEq, Prod.mk.injEq] at H
    obtain ⟨rfl, rfl⟩ := H
    go_wp2_with (first | (refine gz (f := 141) rfl (some 39) rfl Tryz.func141 (metrolabref01_bare.calls k1 x6_1 t171 _ A17.out) ?_; rintro w' ⟨nd, rfl⟩))
    go_ret2
    exact ⟨z24_, z10_⟩
mutual
def metrolabref01_Parted.j0 : Nat → Int → Int → Int → Bool → Option (ByteArray × ByteArray)
 | 0, _, _, _, _ => none
 | k + 1, x6, x7, x9, x32 => if x32 = true then (if x7 = 0 then (none) else ((metrolabref01_Of.f k (wrap64 (Int.tdiv (wrap64 (x6 - (wrap64 (x9 + x7)))) x7))).bind fun t181 => ((metrolabref01_Of.f k (wrap64 (x9 + x7))).bind fun t182 => (some (t181, t182))))) else (if x7 = 0 then (none) else ((metrolabref01_Of.f k (wrap64 (Int.tdiv (wrap64 (x6 - x9)) x7))).bind fun t183 => ((metrolabref01_Of.f k x9).bind fun t184 => (some (t183, t184)))))
def metrolabref01_Parted.j1 : Nat → ByteArray → ByteArray → ByteArray → Bool → Option (ByteArray × ByteArray)
 | 0, _, _, _, _ => none
 | k + 1, x0, x1, x12, x67 => if x67 = true then ((metrolabref01_Minus.f k x12 (⟨#[49]⟩ : ByteArray)).bind fun t194 => ((metrolabref01_Times.f k t194 x1).bind fun t195 => ((metrolabref01_Minus.f k x0 t195).bind fun t196 => (some (t194, t196))))) else ((metrolabref01_Times.f k x12 x1).bind fun t197 => ((metrolabref01_Minus.f k x0 t197).bind fun t198 => (some (x12, t198))))
end
def metrolabref01_Parted.f (k : Nat) (a0 : ByteArray) (a1 : ByteArray) : Option (ByteArray × ByteArray) := (metrolabref01_brief.f k a0 a1).bind fun bt178 => (if bt178.2.2 = true then (if bt178.2.1 = 0 then (none) else (if (Int.tmod bt178.1 bt178.2.1) = 0 then (metrolabref01_Parted.j0 k bt178.1 bt178.2.1 (Int.tmod bt178.1 bt178.2.1) false) else (metrolabref01_Parted.j0 k bt178.1 bt178.2.1 (Int.tmod bt178.1 bt178.2.1) ((decide ((Int.tmod bt178.1 bt178.2.1) < 0)) != (decide (bt178.2.1 < 0)))))) else ((metrolabref01_size.f a0).bind fun t185 => ((metrolabref01_size.f a1).bind fun t186 => ((metrolabref01_divided.f k t185 t186).bind fun bt187 => ((metrolabref01_Below.f a0).bind fun t189 => ((metrolabref01_Below.f a1).bind fun t190 => ((metrolabref01_signed.f bt187.1 (t189 != t190)).bind fun t191 => (if bt187.2.toList = ([48] : List UInt8) then (metrolabref01_Parted.j1 k a0 a1 t191 false) else ((metrolabref01_Below.f a0).bind fun t192 => ((metrolabref01_Below.f a1).bind fun t193 => (metrolabref01_Parted.j1 k a0 a1 t191 (t192 != t193))))))))))))
set_option maxHeartbeats 8000000 in
set_option maxRecDepth 100000 in
theorem metrolabref01_Parted.calls (k : Nat) (a0 : ByteArray) (a1 : ByteArray) (r1 : ByteArray) (r2 : ByteArray) (w : World) (h : metrolabref01_Parted.f k a0 a1 = some (r1, r2)) :
  Calls Tryz.prog 63 #[.string a0, .string a1] w fun e w' => e = .returned (.tuple #[.string r1, .string r2]) ∧ Below w.heap.size w w' := by
 have HB := Aside0.mk (Below.refl w.heap.size w)
 have H : ((metrolabref01_brief.f k a0 a1).bind fun bt178 => (if bt178.2.2 = true then (if bt178.2.1 = 0 then (none) else (if (Int.tmod bt178.1 bt178.2.1) = 0 then (metrolabref01_Parted.j0 k bt178.1 bt178.2.1 (Int.tmod bt178.1 bt178.2.1) false) else (metrolabref01_Parted.j0 k bt178.1 bt178.2.1 (Int.tmod bt178.1 bt178.2.1) ((decide ((Int.tmod bt178.1 bt178.2.1) < 0)) != (decide (bt178.2.1 < 0)))))) else ((metrolabref01_size.f a0).bind fun t185 => ((metrolabref01_size.f a1).bind fun t186 => ((metrolabref01_divided.f k t185 t186).bind fun bt187 => ((metrolabref01_Below.f a0).bind fun t189 => ((metrolabref01_Below.f a1).bind fun t190 => ((metrolabref01_signed.f bt187.1 (t189 != t190)).bind fun t191 => (if bt187.2.toList = ([48] : List UInt8) then (metrolabref01_Parted.j1 k a0 a1 t191 false) else ((metrolabref01_Below.f a0).bind fun t192 => ((metrolabref01_Below.f a1).bind fun t193 => (metrolabref01_Parted.j1 k a0 a1 t191 (t192 != t193))))))))))))) = some (r1, r2) := h
 clear h
 obtain ⟨⟨t178, t179, t180⟩, A3, H⟩ := bindA H
 dsimp only at H
 by_cases c4 : t180 = true
 ·subst c4
  rw [if_pos rfl] at H
  by_cases c5 : t179 = 0
  ·rw [if_pos c5] at H
   exact absurd H (by simp)
  ·rw [if_neg c5] at H
   have c5b0 := beq_eq_false_iff_ne.mpr c5
   have c5b1 := bne_iff_ne.mpr c5
   have HC6 := Aside0.mk H
   clear H
   go_enter Tryz.func63, Tryz.ntmps63
   go_upto_region 4 with (first | (refine gz (f := 105) rfl (some 16) rfl Tryz.func105 (metrolabref01_brief.calls k a0 a1 t178 t179 true _ A3.out) ?_; rintro w' ⟨nd, rfl⟩))
   (try simp only [Act.put, List.setIfInBounds_toArray, List.set_cons_zero, List.set_cons_succ])
   go_cut [32] (fun v32 wc => ∃ (kq : Nat) (x32_5 : Bool), v32 = .bool x32_5 ∧ Aside0 (metrolabref01_Parted.j0 kq t178 t179 (Int.tmod t178 t179) x32_5 = some (r1, r2)) ∧ Aside0 (kq ≤ k) ∧ Aside0 (Below w.heap.size w wc))
   case first =>
    have H := HC6.out
    clear HC6
    by_cases c7 : (Int.tmod t178 t179) = 0
    ·rw [if_pos c7] at H
     have c7b0 := beq_iff_eq.mpr c7
     have c7b1 := bne_eq_false_iff_eq.mpr c7
     clear c7
     (first | rw [c7b0] | (simp only [i64_w, i32_w]; rw [c7b0]) | skip)
     have H' := Aside0.mk H
     clear H
     go_wp2
     go_meet
     case rel => exact ⟨_, (false), z25_, H', ⟨by first | omega | exact Nat.le_refl _⟩, ⟨by repeat (first | (with_reducible first | exact HB.out | apply below_alloc | apply pw_below_drewN | apply below_drew1) | exact HB.out)⟩⟩
    ·rw [if_neg c7] at H
     have c7b0 := beq_eq_false_iff_ne.mpr c7
     have c7b1 := bne_iff_ne.mpr c7
     (first | rw [c7b0] | (simp only [i64_w, i32_w]; rw [c7b0]) | skip)
     have H' := Aside0.mk H
     clear H
     go_wp2
     go_meet
     case rel => exact ⟨_, (((decide ((Int.tmod t178 t179) < 0)) != (decide (t179 < 0)))), z25_, H', ⟨by first | omega | exact Nat.le_refl _⟩, ⟨by repeat (first | (with_reducible first | exact HB.out | apply below_alloc | apply pw_below_drewN | apply below_drew1) | exact HB.out)⟩⟩
   case rest =>
    clear HC6
    try clear c1
    try clear p2
    try clear c4
    try clear c5
    try clear c5b0
    try clear c5b1
    try clear c6
    try clear c7
    try clear c7b0
    try clear c7b1
    obtain ⟨kq, x32_5, rfl, HA, HJ5, HB⟩ := hcut
    cases kq with
    | zero => exact absurd HA.out (by simp [metrolabref01_Parted.j0])
    | succ kj5 =>
     have H := HA.out
     clear HA
     simp only [metrolabref01_Parted.j0] at H
     by_cases c8 : x32_5 = true
     ·subst c8
      rw [if_pos rfl] at H
      by_cases c9 : t179 = 0
      ·rw [if_pos c9] at H
       exact absurd H (by simp)
      ·rw [if_neg c9] at H
       have c9b0 := beq_eq_false_iff_ne.mpr c9
       have c9b1 := bne_iff_ne.mpr c9
       obtain ⟨t181, A10, H⟩ := bindA H
       obtain ⟨t182, A11, H⟩ := bindA H
       simp only [Option.some.injEq, Prod.mk.injEq] at H
       obtain ⟨rfl, rfl⟩ := H
       go_wp2_with (first | (refine gy (f := 106) rfl (some 41) rfl Tryz.func106 (metrolabref01_Of.calls kj5 (wrap64 (Int.tdiv (wrap64 (t178 - (wrap64 ((Int.tmod t178 t179) + t179)))) t179)) t181 _ A10.out) z10_ ?_; clear HB; intro w12 HB) | (refine gy (f := 106) rfl (some 43) rfl Tryz.func106 (metrolabref01_Of.calls kj5 (wrap64 ((Int.tmod t178 t179) + t179)) t182 _ A11.out) z10_ ?_; clear HB; intro w13 HB))
       go_ret2
       exact ⟨z24_, z10_⟩
     ·replace c8 := Bool.eq_false_iff.mpr c8
      subst c8
      rw [if_neg (show ¬ (false = true) by decide)] at H
      by_cases c14 : t179 = 0
      ·rw [if_pos c14] at H
       exact absurd H (by simp)
      ·rw [if_neg c14] at H
       have c14b0 := beq_eq_false_iff_ne.mpr c14
       have c14b1 := bne_iff_ne.mpr c14
       obtain ⟨t183, A15, H⟩ := bindA H
       obtain ⟨t184, A16, H⟩ := bindA H
       simp only [Option.some.injEq, Prod.mk.injEq] at H
       obtain ⟨rfl, rfl⟩ := H
       go_wp2_with (first | (refine gy (f := 106) rfl (some 41) rfl Tryz.func106 (metrolabref01_Of.calls kj5 (wrap64 (Int.tdiv (wrap64 (t178 - (Int.tmod t178 t179))) t179)) t183 _ A15.out) z10_ ?_; clear HB; intro w17 HB) | (refine gy (f := 106) rfl (some 43) rfl Tryz.func106 (metrolabref01_Of.calls kj5 (Int.tmod t178 t179) t184 _ A16.out) z10_ ?_; clear HB; intro w18 HB))
       go_ret2
       exact ⟨z24_, z10_⟩
 ·replace c4 := Bool.eq_false_iff.mpr c4
  subst c4
  rw [if_neg (show ¬ (false = true) by decide)] at H
  obtain ⟨t185, A19, H⟩ := bindA H
  obtain ⟨t186, A20, H⟩ := bindA H
  obtain ⟨⟨t187, t188⟩, A21, H⟩ := bindA H
  dsimp only at H
  obtain ⟨t189, A22, H⟩ := bindA H
  obtain ⟨t190, A23, H⟩ := bindA H
  obtain ⟨t191, A24, H⟩ := bindA H
  have HC25 := Aside0.mk H
  clear H
  go_enter Tryz.func63, Tryz.ntmps63
  go_upto_region 9 with (first | (refine gz (f := 105) rfl (some 16) rfl Tryz.func105 (metrolabref01_brief.calls k a0 a1 t178 t179 false _ A3.out) ?_; rintro w' ⟨nd, rfl⟩) | (refine gz (f := 90) rfl (some 46) rfl Tryz.func90 (metrolabref01_size.calls a0 t185 _ A19.out) ?_; rintro w' ⟨nd, rfl⟩) | (refine gz (f := 90) rfl (some 48) rfl Tryz.func90 (metrolabref01_size.calls a1 t186 _ A20.out) ?_; rintro w' ⟨nd, rfl⟩) | (refine gy (f := 107) rfl (some 49) rfl Tryz.func107 (metrolabref01_divided.calls k t185 t186 t187 t188 _ A21.out) z10_ ?_; clear HB; intro w26 HB) | (refine gz (f := 92) rfl (some 54) rfl Tryz.func92 (metrolabref01_Below.calls a0 t189 _ A22.out) ?_; rintro w' ⟨nd, rfl⟩) | (refine gz (f := 92) rfl (some 56) rfl Tryz.func92 (metrolabref01_Below.calls a1 t190 _ A23.out) ?_; rintro w' ⟨nd, rfl⟩) | (refine gz (f := 104) rfl (some 58) rfl Tryz.func104 (metrolabref01_signed.calls t187 (t189 != t190) t191 _ A24.out) ?_; rintro w' ⟨nd, rfl⟩))
  (try simp only [Act.put, List.setIfInBounds_toArray, List.set_cons_zero, List.set_cons_succ])
  go_cut [67] (fun v67 wc => ∃ (kq : Nat) (x67_24 : Bool), v67 = .bool x67_24 ∧ Aside0 (metrolabref01_Parted.j1 kq a0 a1 t191 x67_24 = some (r1, r2)) ∧ Aside0 (kq ≤ k) ∧ Aside0 (Below w.heap.size w wc))
  case first =>
   have H := HC25.out
   clear HC25
   by_cases c27 : t188.toList = ([48] : List UInt8)
   ·rw [if_pos c27] at H
    have c27b0 := beq_iff_eq.mpr c27
    have c27b1 := bne_eq_false_iff_eq.mpr c27
    clear c27
    (first | rw [c27b0] | (simp only [i64_w, i32_w]; rw [c27b0]) | skip)
    have H' := Aside0.mk H
    clear H
    go_wp2
    go_meet
    case rel => exact ⟨_, (false), z25_, H', ⟨by first | omega | exact Nat.le_refl _⟩, ⟨by repeat (first | (with_reducible first | exact HB.out | apply below_alloc | apply pw_below_drewN | apply below_drew1) | exact HB.out)⟩⟩
   ·rw [if_neg c27] at H
    have c27b0 := beq_eq_false_iff_ne.mpr c27
    have c27b1 := bne_iff_ne.mpr c27
    (first | rw [c27b0] | (simp only [i64_w, i32_w]; rw [c27b0]) | skip)
    obtain ⟨t192, A28, H⟩ := bindA H
    obtain ⟨t193, A29, H⟩ := bindA H
    have H' := Aside0.mk H
    clear H
    go_wp2_with (first | (go_at_call 92; (with_reducible refine (metrolabref01_Below.calls a0 t192 _ A28.out).mono ?_); rintro e w' ⟨rfl, ⟨nd, rfl⟩⟩) | (go_at_call 92; (with_reducible refine (metrolabref01_Below.calls a1 t193 _ A29.out).mono ?_); rintro e w' ⟨rfl, ⟨nd, rfl⟩⟩))
    go_meet
    case rel => exact ⟨_, ((t192 != t193)), z25_, H', ⟨by first | omega | exact Nat.le_refl _⟩, ⟨by repeat (first | (with_reducible first | exact HB.out | apply below_alloc | apply pw_below_drewN | apply below_drew1) | exact HB.out)⟩⟩
  case rest =>
   clear HC25
   try clear c1
   try clear c2
   try clear p2
   try clear c4
   try clear c5
   try clear c5b0
   try clear c5b1
   try clear c6
   try clear p6
   try clear c7
   try clear c7b0
   try clear c7b1
   try clear c8
   try clear c9
   try clear c9b0
   try clear c9b1
   try clear c10
   try clear c14
   try clear c14b0
   try clear c14b1
   try clear c27
   try clear c27b0
   try clear c27b1
   try clear p2
   obtain ⟨kq, x67_24, rfl, HA, HJ24, HB⟩ := hcut
   cases kq with
   | zero => exact absurd HA.out (by simp [metrolabref01_Parted.j1])
   | succ kj24 =>
    have H := HA.out
    clear HA
    simp only [metrolabref01_Parted.j1] at H
    by_cases c30 : x67_24 = true
    ·subst c30
     rw [if_pos rfl] at H
     obtain ⟨t194, A31, H⟩ := bindA H
     obtain ⟨t195, A32, H⟩ := bindA H
     obtain ⟨t196, A33, H⟩ := bindA H
     simp only [Option.some.injEq, Prod.mk.injEq] at H
     obtain ⟨rfl, rfl⟩ := H
     go_wp2_with (first | (refine gy (f := 91) rfl (some 69) rfl Tryz.func91 (metrolabref01_Minus.calls kj24 t191 (⟨#[49]⟩ : ByteArray) t194 _ A31.out) z10_ ?_; clear HB; intro w34 HB) | (refine gy (f := 97) rfl (some 74) rfl Tryz.func97 (metrolabref01_Times.calls kj24 t194 a1 t195 _ A32.out) z10_ ?_; clear HB; intro w35 HB) | (refine gy (f := 91) rfl (some 75) rfl Tryz.func91 (metrolabref01_Minus.calls kj24 a0 t195 t196 _ A33.out) z10_ ?_; clear HB; intro w36 HB))
     go_ret2
     exact ⟨z24_, z10_⟩
    ·replace c30 := Bool.eq_false_iff.mpr c30
     subst c30
     rw [if_neg (show ¬ (false = true) by decide)] at H
     obtain ⟨t197, A37, H⟩ := bindA H
     obtain ⟨t198, A38, H⟩ := bindA H
     simp only [Option.some.injEq, Prod.mk.injEq] at H
     obtain ⟨rfl, rfl⟩ := H
     go_wp2_with (first | (refine gy (f := 97) rfl (some 74) rfl Tryz.func97 (metrolabref01_Times.calls kj24 t191 a1 t197 _ A37.out) z10_ ?_; clear HB; intro w39 HB) | (refine gy (f := 91) rfl (some 75) rfl Tryz.func91 (metrolabref01_Minus.calls kj24 a0 t197 t198 _ A38.out) z10_ ?_; clear HB; intro w40 HB))
     go_ret2
     exact ⟨z24_, z10_⟩
end Go.Proofs.YtkdpcgmnkifbbaaGreatDoor.R
