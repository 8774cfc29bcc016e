/- Joined by a program of this session out of its texts, with only what the last theorem needs: Rx5 Rx6 Rx7. No conditions but those stated. -/
import Derived.Test.YtkdpcgmnkifbbaaGreatDoorZM07
import Derived.Test.YtkdpcgmnkifbbaaGreatDoorZM08
import Derived.Test.YtkdpcgmnkifbbaaGreatDoorZM09
set_option linter.unusedVariables false
set_option linter.unusedSimpArgs false
namespace Go.Proofs.YtkdpcgmnkifbbaaGreatDoorW.PrintLast
end Go.Proofs.YtkdpcgmnkifbbaaGreatDoorW.PrintLast
namespace Go.Proofs.YtkdpcgmnkifbbaaGreatDoorW.PrintMore
end Go.Proofs.YtkdpcgmnkifbbaaGreatDoorW.PrintMore
namespace Go.Proofs.YtkdpcgmnkifbbaaGreatDoorW.PrintWords
end Go.Proofs.YtkdpcgmnkifbbaaGreatDoorW.PrintWords
section
namespace Go.Proofs.YtkdpcgmnkifbbaaGreatDoor.R
open Go.RowKit Go.Proofs.YtkdpcgmnkifbbaaGreatDoorW.PrintWords Go.Proofs.YtkdpcgmnkifbbaaGreatDoorW.PrintLast Go.Proofs.YtkdpcgmnkifbbaaGreatDoorW.PrintMore
attribute [local go_sem] max2_int min2_int max_two min_two max_three min_three max_four min_four
set_option linter.unusedVariables false
set_option linter.unusedSimpArgs false
mutual
def metrolabref01_Shared.l0 : Nat → ByteArray → ByteArray → Option (ByteArray)
 | 0, _, _ => none
 | k + 1, x0, x1 => if x1.toList = ([48] : List UInt8) then (some x0) else ((metrolabref01_brief.f k x0 x1).bind fun bt203 => (if bt203.2.2 = true then (metrolabref01_Shared.l1 k bt203.1 bt203.2.1) else ((metrolabref01_Parted.f k x0 x1).bind fun bt207 => (metrolabref01_Shared.l0 k x1 bt207.2))))
def metrolabref01_Shared.l1 : Nat → Int → Int → Option (ByteArray)
 | 0, _, _ => none
 | k + 1, x5, x6 => if x6 > 0 then (if x6 = 0 then (none) else (metrolabref01_Shared.l1 k x6 (Int.tmod x5 x6))) else ((metrolabref01_Of.f k x5).bind fun t206 => (some t206))
end
def metrolabref01_Shared.f (k : Nat) (a0 : ByteArray) (a1 : ByteArray) : Option (ByteArray) := (metrolabref01_size.f a0).bind fun t199 => ((metrolabref01_signed.f t199 false).bind fun t200 => ((metrolabref01_size.f a1).bind fun t201 => ((metrolabref01_signed.f t201 false).bind fun t202 => (metrolabref01_Shared.l0 k t200 t202))))
set_option maxHeartbeats 8000000 in
set_option maxRecDepth 100000 in
theorem metrolabref01_Shared.calls (k : Nat) (a0 : ByteArray) (a1 : ByteArray) (r : ByteArray) (w : World) (h : metrolabref01_Shared.f k a0 a1 = some r) :
  Calls Tryz.prog 62 #[.string a0, .string a1] w fun e w' => e = .returned (.string r) ∧ Below w.heap.size w w' := by
 have HB := Aside0.mk (Below.refl w.heap.size w)
 have H : ((metrolabref01_size.f a0).bind fun t199 => ((metrolabref01_signed.f t199 false).bind fun t200 => ((metrolabref01_size.f a1).bind fun t201 => ((metrolabref01_signed.f t201 false).bind fun t202 => (metrolabref01_Shared.l0 k t200 t202))))) = some r := h
 clear h
 obtain ⟨t199, A3, H⟩ := bindA H
 obtain ⟨t200, A4, H⟩ := bindA H
 obtain ⟨t201, A5, H⟩ := bindA H
 obtain ⟨t202, A6, H⟩ := bindA H
 have H' := Aside0.mk H
 clear H
 go_enter Tryz.func62, Tryz.ntmps62
 go_wp2_with (first | (go_at_call 90; (with_reducible refine (metrolabref01_size.calls a0 t199 _ A3.out).mono ?_); rintro e w' ⟨rfl, ⟨nd, rfl⟩⟩; (try first | exact ⟨rfl, _, World.drewN_drewN _ _ _⟩ | exact ⟨rfl, _, Eq.trans (World.drewN_drewN _ _ _) (congrArg (World.drewN _) (Nat.add_assoc _ _ _))⟩)) | (go_at_call 104; (with_reducible refine (metrolabref01_signed.calls t199 false t200 _ A4.out).mono ?_); rintro e w' ⟨rfl, ⟨nd, rfl⟩⟩; (try first | exact ⟨rfl, _, World.drewN_drewN _ _ _⟩ | exact ⟨rfl, _, Eq.trans (World.drewN_drewN _ _ _) (congrArg (World.drewN _) (Nat.add_assoc _ _ _))⟩)) | (go_at_call 90; (with_reducible refine (metrolabref01_size.calls a1 t201 _ A5.out).mono ?_); rintro e w' ⟨rfl, ⟨nd, rfl⟩⟩; (try first | exact ⟨rfl, _, World.drewN_drewN _ _ _⟩ | exact ⟨rfl, _, Eq.trans (World.drewN_drewN _ _ _) (congrArg (World.drewN _) (Nat.add_assoc _ _ _))⟩)) | (go_at_call 104; (with_reducible refine (metrolabref01_signed.calls t201 false t202 _ A6.out).mono ?_); rintro e w' ⟨rfl, ⟨nd, rfl⟩⟩; (try first | exact ⟨rfl, _, World.drewN_drewN _ _ _⟩ | exact ⟨rfl, _, Eq.trans (World.drewN_drewN _ _ _) (congrArg (World.drewN _) (Nat.add_assoc _ _ _))⟩)))
 repeat (go_quiet (first | (go_at_call 90; (with_reducible refine (metrolabref01_size.calls a0 t199 _ A3.out).mono ?_); rintro e w' ⟨rfl, ⟨nd, rfl⟩⟩; (try first | exact ⟨rfl, _, World.drewN_drewN _ _ _⟩ | exact ⟨rfl, _, Eq.trans (World.drewN_drewN _ _ _) (congrArg (World.drewN _) (Nat.add_assoc _ _ _))⟩)) | (go_at_call 104; (with_reducible refine (metrolabref01_signed.calls t199 false t200 _ A4.out).mono ?_); rintro e w' ⟨rfl, ⟨nd, rfl⟩⟩; (try first | exact ⟨rfl, _, World.drewN_drewN _ _ _⟩ | exact ⟨rfl, _, Eq.trans (World.drewN_drewN _ _ _) (congrArg (World.drewN _) (Nat.add_assoc _ _ _))⟩)) | (go_at_call 90; (with_reducible refine (metrolabref01_size.calls a1 t201 _ A5.out).mono ?_); rintro e w' ⟨rfl, ⟨nd, rfl⟩⟩; (try first | exact ⟨rfl, _, World.drewN_drewN _ _ _⟩ | exact ⟨rfl, _, Eq.trans (World.drewN_drewN _ _ _) (congrArg (World.drewN _) (Nat.add_assoc _ _ _))⟩)) | (go_at_call 104; (with_reducible refine (metrolabref01_signed.calls t201 false t202 _ A6.out).mono ?_); rintro e w' ⟨rfl, ⟨nd, rfl⟩⟩; (try first | exact ⟨rfl, _, World.drewN_drewN _ _ _⟩ | exact ⟨rfl, _, Eq.trans (World.drewN_drewN _ _ _) (congrArg (World.drewN _) (Nat.add_assoc _ _ _))⟩))); try go_wp2_with (first | (go_at_call 90; (with_reducible refine (metrolabref01_size.calls a0 t199 _ A3.out).mono ?_); rintro e w' ⟨rfl, ⟨nd, rfl⟩⟩; (try first | exact ⟨rfl, _, World.drewN_drewN _ _ _⟩ | exact ⟨rfl, _, Eq.trans (World.drewN_drewN _ _ _) (congrArg (World.drewN _) (Nat.add_assoc _ _ _))⟩)) | (go_at_call 104; (with_reducible refine (metrolabref01_signed.calls t199 false t200 _ A4.out).mono ?_); rintro e w' ⟨rfl, ⟨nd, rfl⟩⟩; (try first | exact ⟨rfl, _, World.drewN_drewN _ _ _⟩ | exact ⟨rfl, _, Eq.trans (World.drewN_drewN _ _ _) (congrArg (World.drewN _) (Nat.add_assoc _ _ _))⟩)) | (go_at_call 90; (with_reducible refine (metrolabref01_size.calls a1 t201 _ A5.out).mono ?_); rintro e w' ⟨rfl, ⟨nd, rfl⟩⟩; (try first | exact ⟨rfl, _, World.drewN_drewN _ _ _⟩ | exact ⟨rfl, _, Eq.trans (World.drewN_drewN _ _ _) (congrArg (World.drewN _) (Nat.add_assoc _ _ _))⟩)) | (go_at_call 104; (with_reducible refine (metrolabref01_signed.calls t201 false t202 _ A6.out).mono ?_); rintro e w' ⟨rfl, ⟨nd, rfl⟩⟩; (try first | exact ⟨rfl, _, World.drewN_drewN _ _ _⟩ | exact ⟨rfl, _, Eq.trans (World.drewN_drewN _ _ _) (congrArg (World.drewN _) (Nat.add_assoc _ _ _))⟩))))
 go_loopg [0, 1] k (fun kq v0 v1 w' => ∃ (x0_1 : ByteArray) (x1_1 : ByteArray), v0 = .string x0_1 ∧ v1 = .string x1_1 ∧ Aside0 (metrolabref01_Shared.l0 kq x0_1 x1_1 = some r) ∧ Aside0 (kq ≤ k) ∧ Aside0 (Below w.heap.size w w'))
 case atStart => exact ⟨(t200), (t202), z25_, z25_, H', ⟨Nat.le_refl _⟩, ⟨by repeat (first | (with_reducible first | exact HB.out | apply below_alloc | apply pw_below_drewN | apply below_drew1) | exact HB.out)⟩⟩
 case round =>
  clear H'
  try clear p2
  try clear c6
  obtain ⟨x0_1, x1_1, rfl, rfl, HA, HK1, HB⟩ := hrel
  cases gk with
  | zero => exact absurd HA.out (by simp [metrolabref01_Shared.l0])
  | succ k1 =>
   have H := HA.out
   clear HA
   simp only [metrolabref01_Shared.l0] at H
   by_cases c7 : x1_1.toList = ([48] : List UInt8)
   ·rw [if_pos c7] at H
    have c7b0 := beq_iff_eq.mpr c7
    have c7b1 := bne_eq_false_iff_eq.mpr c7
    clear c7
    obtain rfl := Option.some.inj H
    go_wp2
    repeat (go_quiet (fail); try go_wp2)
    go_ret
    exact ⟨z24_, z10_⟩
   ·rw [if_neg c7] at H
    have c7b0 := beq_eq_false_iff_ne.mpr c7
    have c7b1 := bne_iff_ne.mpr c7
    obtain ⟨⟨t203, t204, t205⟩, A8, H⟩ := bindA H
    dsimp only at H
    by_cases c9 : t205 = true
    ·subst c9
     rw [if_pos rfl] at H
     have H' := Aside0.mk H
     clear H
     go_wp2_with (first | (go_at_call 105; (with_reducible refine (metrolabref01_brief.calls k1 x0_1 x1_1 t203 t204 true _ A8.out).mono ?_); rintro e w' ⟨rfl, ⟨nd, rfl⟩⟩; (try first | exact ⟨rfl, _, World.drewN_drewN _ _ _⟩ | exact ⟨rfl, _, Eq.trans (World.drewN_drewN _ _ _) (congrArg (World.drewN _) (Nat.add_assoc _ _ _))⟩)))
     repeat (go_quiet (first | (go_at_call 105; (with_reducible refine (metrolabref01_brief.calls k1 x0_1 x1_1 t203 t204 true _ A8.out).mono ?_); rintro e w' ⟨rfl, ⟨nd, rfl⟩⟩; (try first | exact ⟨rfl, _, World.drewN_drewN _ _ _⟩ | exact ⟨rfl, _, Eq.trans (World.drewN_drewN _ _ _) (congrArg (World.drewN _) (Nat.add_assoc _ _ _))⟩))); try go_wp2_with (first | (go_at_call 105; (with_reducible refine (metrolabref01_brief.calls k1 x0_1 x1_1 t203 t204 true _ A8.out).mono ?_); rintro e w' ⟨rfl, ⟨nd, rfl⟩⟩; (try first | exact ⟨rfl, _, World.drewN_drewN _ _ _⟩ | exact ⟨rfl, _, Eq.trans (World.drewN_drewN _ _ _) (congrArg (World.drewN _) (Nat.add_assoc _ _ _))⟩))))
     go_loopg [5, 6] k1 (fun kq v5 v6 w' => ∃ (x5_2 : Int) (x6_2 : Int), v5 = .int .i64 x5_2 ∧ v6 = .int .i64 x6_2 ∧ Aside0 (metrolabref01_Shared.l1 kq x5_2 x6_2 = some r) ∧ Aside0 (kq ≤ k1) ∧ Aside0 (Below w.heap.size w w'))
     case atStart => exact ⟨(t203), (t204), z25_, z25_, H', ⟨Nat.le_refl _⟩, ⟨by repeat (first | (with_reducible first | exact HB.out | apply below_alloc | apply pw_below_drewN | apply below_drew1) | exact HB.out)⟩⟩
     case round =>
      clear H'
      try clear p2
      try clear c6
      try clear c7
      try clear c7b0
      try clear c7b1
      try clear c9
      try clear p2
      obtain ⟨x5_2, x6_2, rfl, rfl, HA, HK2, HB⟩ := hrel
      cases gk with
      | zero => exact absurd HA.out (by simp [metrolabref01_Shared.l1])
      | succ k2 =>
       have H := HA.out
       clear HA
       simp only [metrolabref01_Shared.l1] at H
       by_cases c10 : x6_2 > 0
       ·rw [if_pos c10] at H
        have c10b0 : decide (0 < x6_2) = true := decide_eq_true c10
        clear c10
        by_cases c11 : x6_2 = 0
        ·rw [if_pos c11] at H
         exact absurd H (by simp)
        ·rw [if_neg c11] at H
         have c11b0 := beq_eq_false_iff_ne.mpr c11
         have c11b1 := bne_iff_ne.mpr c11
         have H' := Aside0.mk H
         clear H
         go_wp2
         repeat (go_quiet (fail); try go_wp2)
         go_roundg k2
         case measure => have := HK1.out; have := HK2.out; omega
         case rel => exact ⟨(x6_2), (Int.tmod x5_2 x6_2), z25_, z25_, H', ⟨by have := HK1.out; have := HK2.out; omega⟩, ⟨by repeat (first | (with_reducible first | exact HB.out | apply below_alloc | apply pw_below_drewN | apply below_drew1) | exact HB.out)⟩⟩
       ·rw [if_neg c10] at H
        have c10b0 : decide (0 < x6_2) = false := decide_eq_false c10
        clear c10
        obtain ⟨t206, A12, H⟩ := bindA H
        obtain rfl := Option.some.inj H
        go_wp2_with (first | (go_at_call 106; (with_reducible refine (metrolabref01_Of.calls k2 x5_2 t206 _ A12.out).mono ?_); rintro e w13 ⟨rfl, hb⟩; replace HB := Aside0.mk (below_step z10_ hb); clear hb))
        repeat (go_quiet (first | (go_at_call 106; (with_reducible refine (metrolabref01_Of.calls k2 x5_2 t206 _ A12.out).mono ?_); rintro e w13 ⟨rfl, hb⟩; replace HB := Aside0.mk (below_step z10_ hb); clear hb)); try go_wp2_with (first | (go_at_call 106; (with_reducible refine (metrolabref01_Of.calls k2 x5_2 t206 _ A12.out).mono ?_); rintro e w13 ⟨rfl, hb⟩; replace HB := Aside0.mk (below_step z10_ hb); clear hb)))
        go_ret
        exact ⟨z24_, z10_⟩
    ·replace c9 := Bool.eq_false_iff.mpr c9
     subst c9
     rw [if_neg (show ¬ (false = true) by decide)] at H
     obtain ⟨⟨t207, t208⟩, A14, H⟩ := bindA H
     dsimp only at H
     have H' := Aside0.mk H
     clear H
     go_wp2_with (first | (go_at_call 105; (with_reducible refine (metrolabref01_brief.calls k1 x0_1 x1_1 t203 t204 false _ A8.out).mono ?_); rintro e w' ⟨rfl, ⟨nd, rfl⟩⟩; (try first | exact ⟨rfl, _, World.drewN_drewN _ _ _⟩ | exact ⟨rfl, _, Eq.trans (World.drewN_drewN _ _ _) (congrArg (World.drewN _) (Nat.add_assoc _ _ _))⟩)) | (go_at_call 63; (with_reducible refine (metrolabref01_Parted.calls k1 x0_1 x1_1 t207 t208 _ A14.out).mono ?_); rintro e w15 ⟨rfl, hb⟩; replace HB := Aside0.mk (below_step z10_ hb); clear hb))
     repeat (go_quiet (first | (go_at_call 105; (with_reducible refine (metrolabref01_brief.calls k1 x0_1 x1_1 t203 t204 false _ A8.out).mono ?_); rintro e w' ⟨rfl, ⟨nd, rfl⟩⟩; (try first | exact ⟨rfl, _, World.drewN_drewN _ _ _⟩ | exact ⟨rfl, _, Eq.trans (World.drewN_drewN _ _ _) (congrArg (World.drewN _) (Nat.add_assoc _ _ _))⟩)) | (go_at_call 63; (with_reducible refine (metrolabref01_Parted.calls k1 x0_1 x1_1 t207 t208 _ A14.out).mono ?_); rintro e w15 ⟨rfl, hb⟩; replace HB := Aside0.mk (below_step z10_ hb); clear hb)); try go_wp2_with (first | (go_at_call 105; (with_reducible refine (metrolabref01_brief.calls k1 x0_1 x1_1 t203 t204 false _ A8.out).mono ?_); rintro e w' ⟨rfl, ⟨nd, rfl⟩⟩; (try first | exact ⟨rfl, _, World.drewN_drewN _ _ _⟩ | exact ⟨rfl, _, Eq.trans (World.drewN_drewN _ _ _) (congrArg (World.drewN _) (Nat.add_assoc _ _ _))⟩)) | (go_at_call 63; (with_reducible refine (metrolabref01_Parted.calls k1 x0_1 x1_1 t207 t208 _ A14.out).mono ?_); rintro e w15 ⟨rfl, hb⟩; replace HB := Aside0.mk (below_step z10_ hb); clear hb)))
     go_roundg k1
     case measure => have := HK1.out; omega
     case rel => exact ⟨(x1_1), (t208), z25_, z25_, H', ⟨by have := HK1.out; omega⟩, ⟨by repeat (first | (with_reducible first | exact HB.out | apply below_alloc | apply pw_below_drewN | apply below_drew1) | exact HB.out)⟩⟩
def metrolabref02_slash.l0 : Nat → ByteArray → Int → Option (Int)
 | 0, _, _ => none
 | k + 1, x0, x3 => if x3 < (x0.size : Int) then (if 0 ≤ x3 then (if (bt x0 x3) = 47 then (some x3) else (metrolabref02_slash.l0 k x0 (wrap64 (x3 + 1)))) else (none)) else (some (-1))
def metrolabref02_slash.f (k : Nat) (a0 : ByteArray) : Option (Int) := metrolabref02_slash.l0 k a0 0
set_option maxHeartbeats 8000000 in
set_option maxRecDepth 100000 in
theorem metrolabref02_slash.calls (k : Nat) (a0 : ByteArray) (r : Int) (w : World) (h : metrolabref02_slash.f k a0 = some r) :
  Calls Tryz.prog 64 #[.string a0] w fun e w' => e = .returned (.int .i64 r) ∧ Drawn0 w w' := by
 have H : (metrolabref02_slash.l0 k a0 0) = some r := h
 clear h
 have H' := Aside0.mk H
 clear H
 go_enter Tryz.func64, Tryz.ntmps64
 go_wp2
 go_loopg [3] k (fun kq v3 w' => ∃ (x3_1 : Int), v3 = .int .i64 x3_1 ∧ Aside0 (metrolabref02_slash.l0 kq a0 x3_1 = some r) ∧ Aside0 (kq ≤ k) ∧ Drawn0 w w')
 case atStart => exact ⟨(0), z25_, H', ⟨Nat.le_refl _⟩, by repeat (first | exact Drawn0.refl _ | apply Drawn0.step)⟩
 case round =>
  clear H'
  obtain ⟨x3_1, rfl, HA, HK1, ⟨m1, rfl⟩⟩ := hrel
  cases gk with
  | zero => exact absurd HA.out (by simp [metrolabref02_slash.l0])
  | succ k1 =>
   have H := HA.out
   clear HA
   simp only [metrolabref02_slash.l0] at H
   by_cases c2 : x3_1 < (a0.size : Int)
   ·rw [if_pos c2] at H
    have c2b0 : decide (x3_1 < (a0.size : Int)) = true := decide_eq_true c2
    clear c2
    by_cases c3 : 0 ≤ x3_1
    ·rw [if_pos c3] at H
     have c3b0 : decide (0 ≤ x3_1) = true := decide_eq_true c3
     clear c3
     by_cases c5 : (bt a0 x3_1) = 47
     ·rw [if_pos c5] at H
      have c5b0 := beq_iff_eq.mpr c5
      have c5b1 := bne_eq_false_iff_eq.mpr c5
      clear c5
      obtain rfl := Option.some.inj H
      have p4 : 0 ≤ (x3_1 : Int) := of_decide_eq_true z26_
      have q4 : x3_1 < (a0.size : Int) := of_decide_eq_true z26_
      have hx4 := bt_at a0 x3_1
      replace p4 := eq_true p4
      replace q4 := eq_true q4
      go_wp2
      go_ret
      exact ⟨by first | rfl | (simp; done) | (simp [*]; done), by repeat (first | exact Drawn0.refl _ | apply Drawn0.step)⟩
     ·rw [if_neg c5] at H
      have c5b0 := beq_eq_false_iff_ne.mpr c5
      have c5b1 := bne_iff_ne.mpr c5
      have H' := Aside0.mk H
      clear H
      have p4 : 0 ≤ (x3_1 : Int) := of_decide_eq_true z26_
      have q4 : x3_1 < (a0.size : Int) := of_decide_eq_true z26_
      have hx4 := bt_at a0 x3_1
      replace p4 := eq_true p4
      replace q4 := eq_true q4
      go_wp2
      go_roundg k1
      case measure => have := HK1.out; omega
      case rel => exact ⟨(wrap64 (x3_1 + 1)), z25_, H', ⟨by have := HK1.out; omega⟩, by repeat (first | exact Drawn0.refl _ | apply Drawn0.step)⟩
    ·rw [if_neg c3] at H
     exact absurd H (by simp)
   ·rw [if_neg c2] at H
    have c2b0 : decide (x3_1 < (a0.size : Int)) = false := decide_eq_false c2
    clear c2
    obtain rfl := Option.some.inj H
    go_wp2
    go_ret
    exact ⟨by first | rfl | (simp; done) | (simp [*]; done), by repeat (first | exact Drawn0.refl _ | apply Drawn0.step)⟩
def metrolabref02_Split.f (k : Nat) (a0 : ByteArray) : Option (ByteArray × ByteArray) := (metrolabref02_slash.f k a0).bind fun t225 => (if t225 < 0 then (some (a0, (⟨#[49]⟩ : ByteArray))) else (if 0 ≤ t225 then (if t225 ≤ (a0.size : Int) then (if 0 ≤ (wrap64 (t225 + 1)) then (if (wrap64 (t225 + 1)) ≤ (a0.size : Int) then (some (a0.extract 0 (t225 : Int).toNat, a0.extract ((wrap64 (t225 + 1)) : Int).toNat a0.size)) else (none)) else (none)) else (none)) else (none)))
set_option maxHeartbeats 8000000 in
set_option maxRecDepth 100000 in
theorem metrolabref02_Split.calls (k : Nat) (a0 : ByteArray) (r1 : ByteArray) (r2 : ByteArray) (w : World) (h : metrolabref02_Split.f k a0 = some (r1, r2)) :
  Calls Tryz.prog 31 #[.string a0] w fun e w' => e = .returned (.tuple #[.string r1, .string r2]) ∧ Drawn0 w w' := by
 have H : ((metrolabref02_slash.f k a0).bind fun t225 => (if t225 < 0 then (some (a0, (⟨#[49]⟩ : ByteArray))) else (if 0 ≤ t225 then (if t225 ≤ (a0.size : Int) then (if 0 ≤ (wrap64 (t225 + 1)) then (if (wrap64 (t225 + 1)) ≤ (a0.size : Int) then (some (a0.extract 0 (t225 : Int).toNat, a0.extract ((wrap64 (t225 + 1)) : Int).toNat a0.size)) else (none)) else (none)) else (none)) else (none)))) = some (r1, r2) := h
 clear h
 obtain ⟨t225, A2, H⟩ := bindA H
 by_cases c3 : t225 < 0
 ·rw [if_pos c3] at H
  have c3b0 : decide (t225 < 0) = true := decide_eq_true c3
  clear c3
  simp only [Option.some.injEq, Prod.mk.injEq] at H
  obtain ⟨rfl, rfl⟩ := H
  go_enter Tryz.func31, Tryz.ntmps31
  go_wp2_with (first | (go_at_call 64; (with_reducible refine (metrolabref02_slash.calls k a0 t225 _ A2.out).mono ?_); rintro e w' ⟨rfl, ⟨nd, rfl⟩⟩; (try first | exact ⟨rfl, _, World.drewN_drewN _ _ _⟩ | exact ⟨rfl, _, Eq.trans (World.drewN_drewN _ _ _) (congrArg (World.drewN _) (Nat.add_assoc _ _ _))⟩)))
  repeat (go_quiet (first | (go_at_call 64; (with_reducible refine (metrolabref02_slash.calls k a0 t225 _ A2.out).mono ?_); rintro e w' ⟨rfl, ⟨nd, rfl⟩⟩; (try first | exact ⟨rfl, _, World.drewN_drewN _ _ _⟩ | exact ⟨rfl, _, Eq.trans (World.drewN_drewN _ _ _) (congrArg (World.drewN _) (Nat.add_assoc _ _ _))⟩))); try go_wp2_with (first | (go_at_call 64; (with_reducible refine (metrolabref02_slash.calls k a0 t225 _ A2.out).mono ?_); rintro e w' ⟨rfl, ⟨nd, rfl⟩⟩; (try first | exact ⟨rfl, _, World.drewN_drewN _ _ _⟩ | exact ⟨rfl, _, Eq.trans (World.drewN_drewN _ _ _) (congrArg (World.drewN _) (Nat.add_assoc _ _ _))⟩))))
  go_ret2
  exact ⟨by first | rfl | (simp; done) | (simp [*]; done), by repeat (first | exact Drawn0.refl _ | apply Drawn0.step)⟩
 ·rw [if_neg c3] at H
  have c3b0 : decide (t225 < 0) = false := decide_eq_false c3
  clear c3
  by_cases c4 : 0 ≤ t225
  ·rw [if_pos c4] at H
   have c4b0 := eq_true c4
   have c4b1 : decide (0 ≤ t225) = true := decide_eq_true c4
   clear c4
   by_cases c5 : t225 ≤ (a0.size : Int)
   ·rw [if_pos c5] at H
    have c5b0 := eq_true c5
    have c5b1 : decide (t225 ≤ (a0.size : Int)) = true := decide_eq_true c5
    clear c5
    obtain ⟨ji6, hji6⟩ : ∃ j_ : Int, (wrap64 (t225 + 1)) = j_ := ⟨_, rfl⟩
    replace H : (if 0 ≤ (ji6) then (if (ji6) ≤ (a0.size : Int) then (some (a0.extract 0 (t225 : Int).toNat, a0.extract ((ji6) : Int).toNat a0.size)) else (none)) else (none)) = some (r1, r2) := by first | (rw [hji6] at H; exact H) | (simp only [hji6] at H ⊢; exact H)
    (try rw [hji6] at A2)
    have hji6w : (IntKind.i64.wrap (t225 + 1)) = ji6 := (i64_w _).trans hji6
    by_cases c7 : 0 ≤ (ji6)
    ·rw [if_pos c7] at H
     have c7b0 := eq_true c7
     have c7b1 : decide (0 ≤ (ji6)) = true := decide_eq_true c7
     clear c7
     by_cases c8 : (ji6) ≤ (a0.size : Int)
     ·rw [if_pos c8] at H
      have c8b0 := eq_true c8
      have c8b1 : decide ((ji6) ≤ (a0.size : Int)) = true := decide_eq_true c8
      clear c8
      simp only [Option.some.injEq, Prod.mk.injEq] at H
      obtain ⟨rfl, rfl⟩ := H
      go_enter Tryz.func31, Tryz.ntmps31
      go_wp2_with (first | (go_at_call 64; (with_reducible refine (metrolabref02_slash.calls k a0 t225 _ A2.out).mono ?_); rintro e w' ⟨rfl, ⟨nd, rfl⟩⟩; (try first | exact ⟨rfl, _, World.drewN_drewN _ _ _⟩ | exact ⟨rfl, _, Eq.trans (World.drewN_drewN _ _ _) (congrArg (World.drewN _) (Nat.add_assoc _ _ _))⟩)))
      repeat (go_quiet (first | (go_at_call 64; (with_reducible refine (metrolabref02_slash.calls k a0 t225 _ A2.out).mono ?_); rintro e w' ⟨rfl, ⟨nd, rfl⟩⟩; (try first | exact ⟨rfl, _, World.drewN_drewN _ _ _⟩ | exact ⟨rfl, _, Eq.trans (World.drewN_drewN _ _ _) (congrArg (World.drewN _) (Nat.add_assoc _ _ _))⟩))); try go_wp2_with (first | (go_at_call 64; (with_reducible refine (metrolabref02_slash.calls k a0 t225 _ A2.out).mono ?_); rintro e w' ⟨rfl, ⟨nd, rfl⟩⟩; (try first | exact ⟨rfl, _, World.drewN_drewN _ _ _⟩ | exact ⟨rfl, _, Eq.trans (World.drewN_drewN _ _ _) (congrArg (World.drewN _) (Nat.add_assoc _ _ _))⟩))))
      go_ret2
      exact ⟨by first | rfl | (simp; done) | (simp only [← hji6] <;> (first | rfl | simp)) | (simp [*]; done), by repeat (first | exact Drawn0.refl _ | apply Drawn0.step)⟩
     ·rw [if_neg c8] at H
      exact absurd H (by simp)
    ·rw [if_neg c7] at H
     exact absurd H (by simp)
   ·rw [if_neg c5] at H
    exact absurd H (by simp)
  ·rw [if_neg c4] at H
   exact absurd H (by simp)
end Go.Proofs.YtkdpcgmnkifbbaaGreatDoor.R
end
section
namespace Go.Proofs.YtkdpcgmnkifbbaaGreatDoor.R
open Go.RowKit Go.Proofs.YtkdpcgmnkifbbaaGreatDoorW.PrintWords Go.Proofs.YtkdpcgmnkifbbaaGreatDoorW.PrintLast Go.Proofs.YtkdpcgmnkifbbaaGreatDoorW.PrintMore
attribute [local go_sem] max2_int min2_int max_two min_two max_three min_three max_four min_four
set_option linter.unusedVariables false
set_option linter.unusedSimpArgs false
def metrolabref02_Lowest.j0 : Nat → ByteArray → ByteArray → ByteArray → Option (ByteArray)
 | 0, _, _, _ => none
 | k + 1, x0, x1, x5 => (metrolabref01_Parted.f k x0 x5).bind fun bt238 => ((metrolabref01_Parted.f k x1 x5).bind fun bt240 => (if bt240.1.toList = ([49] : List UInt8) then (some bt238.1) else (if bt238.1.size + 1 ≤ 9223372036854775807 then (if (bt238.1 ++ (⟨#[47]⟩ : ByteArray)).size + bt240.1.size ≤ 9223372036854775807 then (some ((bt238.1 ++ (⟨#[47]⟩ : ByteArray)) ++ bt240.1)) else (none)) else (none))))
def metrolabref02_Lowest.f (k : Nat) (a0 : ByteArray) (a1 : ByteArray) : Option (ByteArray) := (metrolabref01_Shared.f k a0 a1).bind fun t235 => ((metrolabref01_Below.f a1).bind fun t236 => (if t236 = true then ((metrolabref01_Turned.f t235).bind fun t237 => (metrolabref02_Lowest.j0 k a0 a1 t237)) else (metrolabref02_Lowest.j0 k a0 a1 t235)))
set_option maxHeartbeats 8000000 in
set_option maxRecDepth 100000 in
theorem metrolabref02_Lowest.calls (k : Nat) (a0 : ByteArray) (a1 : ByteArray) (r : ByteArray) (w : World) (h : metrolabref02_Lowest.f k a0 a1 = some r) :
  Calls Tryz.prog 109 #[.string a0, .string a1] w fun e w' => e = .returned (.string r) ∧ Below w.heap.size w w' := by
 have HB := Aside0.mk (Below.refl w.heap.size w)
 have H : ((metrolabref01_Shared.f k a0 a1).bind fun t235 => ((metrolabref01_Below.f a1).bind fun t236 => (if t236 = true then ((metrolabref01_Turned.f t235).bind fun t237 => (metrolabref02_Lowest.j0 k a0 a1 t237)) else (metrolabref02_Lowest.j0 k a0 a1 t235)))) = some r := h
 clear h
 obtain ⟨t235, A3, H⟩ := bindA H
 obtain ⟨t236, A4, H⟩ := bindA H
 have HC5 := Aside0.mk H
 clear H
 go_enter Tryz.func109, Tryz.ntmps109
 go_upto_if 14 with (first | (refine gy (f := 62) rfl (some 12) rfl Tryz.func62 (metrolabref01_Shared.calls k a0 a1 t235 _ A3.out) z10_ ?_; clear HB; intro w6 HB) | (refine gz (f := 92) rfl (some 14) rfl Tryz.func92 (metrolabref01_Below.calls a1 t236 _ A4.out) ?_; rintro w' ⟨nd, rfl⟩))
 (try simp only [Act.put, List.setIfInBounds_toArray, List.set_cons_zero, List.set_cons_succ])
 go_cut [5] (fun v5 wc => ∃ (kq : Nat) (x5_4 : ByteArray), v5 = .string x5_4 ∧ Aside0 (metrolabref02_Lowest.j0 kq a0 a1 x5_4 = some r) ∧ Aside0 (kq ≤ k) ∧ Aside0 (Below w.heap.size w wc))
 case first =>
  have H := HC5.out
  clear HC5
  by_cases c7 : t236 = true
  ·subst c7
   rw [if_pos rfl] at H
   obtain ⟨t237, A8, H⟩ := bindA H
   have H' := Aside0.mk H
   clear H
   go_wp2_with (first | (refine gz (f := 129) rfl (some 16) rfl Tryz.func129 (metrolabref01_Turned.calls t235 t237 _ A8.out) ?_; rintro w' ⟨nd, rfl⟩))
   go_meet
   case rel => exact ⟨_, (t237), z25_, H', ⟨by first | omega | exact Nat.le_refl _⟩, ⟨by repeat (first | (with_reducible first | exact HB.out | apply below_alloc | apply pw_below_drewN | apply below_drew1) | exact HB.out)⟩⟩
  ·replace c7 := Bool.eq_false_iff.mpr c7
   subst c7
   rw [if_neg (show ¬ (false = true) by decide)] at H
   have H' := Aside0.mk H
   clear H
   go_wp2
   go_meet
   case rel => exact ⟨_, (t235), z25_, H', ⟨by first | omega | exact Nat.le_refl _⟩, ⟨by repeat (first | (with_reducible first | exact HB.out | apply below_alloc | apply pw_below_drewN | apply below_drew1) | exact HB.out)⟩⟩
 case rest =>
  clear HC5
  try clear c1
  try clear p2
  try clear c6
  try clear c7
  obtain ⟨kq, x5_4, rfl, HA, HJ4, HB⟩ := hcut
  cases kq with
  | zero => exact absurd HA.out (by simp [metrolabref02_Lowest.j0])
  | succ kj4 =>
   have H := HA.out
   clear HA
   simp only [metrolabref02_Lowest.j0] at H
   obtain ⟨⟨t238, t239⟩, A9, H⟩ := bindA H
   dsimp only at H
   obtain ⟨⟨t240, t241⟩, A10, H⟩ := bindA H
   dsimp only at H
   by_cases c11 : t240.toList = ([49] : List UInt8)
   ·rw [if_pos c11] at H
    have c11b0 := beq_iff_eq.mpr c11
    have c11b1 := bne_eq_false_iff_eq.mpr c11
    clear c11
    obtain rfl := Option.some.inj H
    go_wp2_with (first | (refine gy (f := 63) rfl (some 20) rfl Tryz.func63 (metrolabref01_Parted.calls kj4 a0 x5_4 t238 t239 _ A9.out) z10_ ?_; clear HB; intro w12 HB) | (refine gy (f := 63) rfl (some 26) rfl Tryz.func63 (metrolabref01_Parted.calls kj4 a1 x5_4 t240 t241 _ A10.out) z10_ ?_; clear HB; intro w13 HB))
    go_ret
    exact ⟨z24_, z10_⟩
   ·rw [if_neg c11] at H
    have c11b0 := beq_eq_false_iff_ne.mpr c11
    have c11b1 := bne_iff_ne.mpr c11
    by_cases c14 : t238.size + 1 ≤ 9223372036854775807
    ·rw [if_pos c14] at H
     have c14b0 := eq_true c14
     have c14b1 : decide (t238.size + 1 ≤ 9223372036854775807) = true := decide_eq_true c14
     try have c14b2 : (9223372036854775807 < t238.size + 1) = False := eq_false (Nat.not_lt.2 c14)
     by_cases c15 : (t238 ++ (⟨#[47]⟩ : ByteArray)).size + t240.size ≤ 9223372036854775807
     ·rw [if_pos c15] at H
      have c15b0 := eq_true c15
      have c15b1 : decide ((t238 ++ (⟨#[47]⟩ : ByteArray)).size + t240.size ≤ 9223372036854775807) = true := decide_eq_true c15
      try have c15b2 : (9223372036854775807 < (t238 ++ (⟨#[47]⟩ : ByteArray)).size + t240.size) = False := eq_false (Nat.not_lt.2 c15)
      obtain rfl := Option.some.inj H
      go_wp2_with (first | (refine gy (f := 63) rfl (some 20) rfl Tryz.func63 (metrolabref01_Parted.calls kj4 a0 x5_4 t238 t239 _ A9.out) z10_ ?_; clear HB; intro w16 HB) | (refine gy (f := 63) rfl (some 26) rfl Tryz.func63 (metrolabref01_Parted.calls kj4 a1 x5_4 t240 t241 _ A10.out) z10_ ?_; clear HB; intro w17 HB))
      go_ret
      exact ⟨z24_, z10_⟩
     ·rw [if_neg c15] at H
      exact absurd H (by simp)
    ·rw [if_neg c14] at H
     exact absurd H (by simp)
def metrolabref02_crossed.f (k : Nat) (a0 : ByteArray) (a1 : ByteArray) : Option (List ByteArray) := (metrolabref02_Split.f k a0).bind fun bt242 => ((metrolabref02_Split.f k a1).bind fun bt244 => ((metrolabref01_Times.f k bt242.1 bt244.2).bind fun t246 => ((metrolabref01_Times.f k bt244.1 bt242.2).bind fun t247 => ((metrolabref01_Times.f k bt242.2 bt244.2).bind fun t248 => ((metrolabref01_Times.f k bt242.1 bt244.1).bind fun t249 => ((metrolabref01_Times.f k bt242.2 bt244.1).bind fun t250 => (some (([t246, t247, t248, t249, t250] : List ByteArray)))))))))
set_option maxHeartbeats 8000000 in
set_option maxRecDepth 100000 in
theorem metrolabref02_crossed.calls (k : Nat) (a0 : ByteArray) (a1 : ByteArray) (r : List ByteArray) (w : World) (h : metrolabref02_crossed.f k a0 a1 = some r) :
  Calls Tryz.prog 74 #[.string a0, .string a1] w fun e w' => ∃ v0_ : Value, e = .returned (v0_) ∧ Kd.R Kd.string 39 w' w.heap.size (fun _ => True) v0_ r ∧ Below w.heap.size w w' := by
 have HB := Aside0.mk (Below.refl w.heap.size w)
 have H : ((metrolabref02_Split.f k a0).bind fun bt242 => ((metrolabref02_Split.f k a1).bind fun bt244 => ((metrolabref01_Times.f k bt242.1 bt244.2).bind fun t246 => ((metrolabref01_Times.f k bt244.1 bt242.2).bind fun t247 => ((metrolabref01_Times.f k bt242.2 bt244.2).bind fun t248 => ((metrolabref01_Times.f k bt242.1 bt244.1).bind fun t249 => ((metrolabref01_Times.f k bt242.2 bt244.1).bind fun t250 => (some (([t246, t247, t248, t249, t250] : List ByteArray)))))))))) = some r := h
 clear h
 obtain ⟨⟨t242, t243⟩, A3, H⟩ := bindA H
 dsimp only at H
 obtain ⟨⟨t244, t245⟩, A4, H⟩ := bindA H
 dsimp only at H
 obtain ⟨t246, A5, H⟩ := bindA H
 obtain ⟨t247, A6, H⟩ := bindA H
 obtain ⟨t248, A7, H⟩ := bindA H
 obtain ⟨t249, A8, H⟩ := bindA H
 obtain ⟨t250, A9, H⟩ := bindA H
 obtain ⟨y251, hy251⟩ : ∃ y_ : List ByteArray, y_ = (([t246, t247, t248, t249, t250] : List ByteArray)) := ⟨_, rfl⟩
 replace H : (some y251) = some r := by first | (rw [hy251]; with_reducible exact H) | (have H2_ := (Option.bind_some _ _).symm.trans H; rw [hy251]; with_reducible exact H2_) | (have H2_ := (Option.bind_some _ _).symm.trans H; with_reducible exact H2_) | with_reducible exact H | (rw [hy251]; exact H) | exact H
 have Ny251 := Aside0.mk hy251
 clear hy251
 obtain rfl := Option.some.inj H
 go_enter Tryz.func74, Tryz.ntmps74
 go_wp2_with (first | (refine gz (f := 31) rfl (some 11) rfl Tryz.func31 (metrolabref02_Split.calls k a0 t242 t243 _ A3.out) ?_; rintro w' ⟨nd, rfl⟩) | (refine gz (f := 31) rfl (some 16) rfl Tryz.func31 (metrolabref02_Split.calls k a1 t244 t245 _ A4.out) ?_; rintro w' ⟨nd, rfl⟩) | (refine gy (f := 97) rfl (some 21) rfl Tryz.func97 (metrolabref01_Times.calls k t242 t245 t246 _ A5.out) z10_ ?_; clear HB; intro w10 HB) | (refine gy (f := 97) rfl (some 24) rfl Tryz.func97 (metrolabref01_Times.calls k t244 t243 t247 _ A6.out) z10_ ?_; clear HB; intro w11 HB) | (refine gy (f := 97) rfl (some 27) rfl Tryz.func97 (metrolabref01_Times.calls k t243 t245 t248 _ A7.out) z10_ ?_; clear HB; intro w12 HB) | (refine gy (f := 97) rfl (some 30) rfl Tryz.func97 (metrolabref01_Times.calls k t242 t244 t249 _ A8.out) z10_ ?_; clear HB; intro w13 HB) | (refine gy (f := 97) rfl (some 33) rfl Tryz.func97 (metrolabref01_Times.calls k t243 t244 t250 _ A9.out) z10_ ?_; clear HB; intro w14 HB) | ((with_reducible refine gate_dst (N := 34) rfl ?_); refine Kd.R_lit Kd.string _ 39 ?hg (N := 34) ?hd (xs := ([t246, t247, t248, t249, t250] : List ByteArray)) (inner := [.string t246, .string t247, .string t248, .string t249, .string t250]) (ok := fun _ => True) (okp := fun _ => True) ?hr ?hp (fun _ hk => hk) trivial (Below.refl _ _) (Nat.le_refl _) (by simp) ?_; (case hd => rfl); (case hg => rfl); (case hr => first | (go_simp; done) | (go_simp; rfl)); (case hp => exact (Reps.one (show Kd.M Kd.string _ _ _ t246 [.string t246] from rfl) (Reps.one (show Kd.M Kd.string _ _ _ t247 [.string t247] from rfl) (Reps.one (show Kd.M Kd.string _ _ _ t248 [.string t248] from rfl) (Reps.one (show Kd.M Kd.string _ _ _ t249 [.string t249] from rfl) (Reps.one (show Kd.M Kd.string _ _ _ t250 [.string t250] from rfl) (Reps.none _ _))))))); intro v252 w15 ho16 hb hg_ hnew_; clear hg_ hnew_; (first | rw [← Ny251.out] at ho16 | (simp only [Int.reduceToNat] at ho16; rw [← Ny251.out] at ho16)); have n0_ := Aside0.mk (Kd.R_lower ho16 (below_size z10_)); have n1_ := Aside0.mk (below_step z10_ hb); clear HB; have HO253 := n0_; have HB := n1_; clear n0_ n1_; clear hb ho16))
 go_ret
 exact ⟨_, z24_, by (with_reducible repeat (first | apply Kd.R_alloc | apply Kd.R_drewN | apply Kd.R_drew)); exact HO253.out, z10_⟩
def metrolabref02_Plus.f (k : Nat) (a0 : ByteArray) (a1 : ByteArray) : Option (ByteArray) := (metrolabref02_crossed.f k a0 a1).bind fun t254 => (if 0 < (t254.length : Int) then (if 1 < (t254.length : Int) then ((metrolabref01_Plus.f k (rdOf ByteArray.empty t254 0) (rdOf ByteArray.empty t254 1)).bind fun t259 => (if 2 < (t254.length : Int) then ((metrolabref02_Lowest.f k t259 (rdOf ByteArray.empty t254 2)).bind fun t261 => (some t261)) else (none))) else (none)) else (none))
def metrolabref02_Plus.T2 : Bool × List (List Nat × List Nat) := (true, [([], []), ([0], [0]), ([1], [1]), ([], []), ([3], [3]), ([4], [4]), ([2, 5], [2, 5]), ([], []), ([7], [7]), ([8], [8]), ([6, 9, 6], [6, 9]), ([10, 10, 0, 1, 2, 3, 4, 5, 6, 7, 8, 9, 10], [10])])
def metrolabref02_Plus.B2 : List Nat := [0, 1, 3, 0, 8, 24, 63, 0, 128, 384, 1023, 2047]
theorem metrolabref02_Plus.tab2 : rtab .any (opsOf Tryz.f66 2) = metrolabref02_Plus.T2 := by kernel_rfl
theorem metrolabref02_Plus.bits2 : waitsOk metrolabref02_Plus.T2.2 metrolabref02_Plus.B2 = true := by kernel_rfl
set_option maxHeartbeats 8000000 in
set_option maxRecDepth 100000 in
theorem metrolabref02_Plus.calls (k : Nat) (a0 : ByteArray) (a1 : ByteArray) (r : ByteArray) (w : World) (h : metrolabref02_Plus.f k a0 a1 = some r) :
  Calls Tryz.prog 66 #[.string a0, .string a1] w fun e w' => e = .returned (.string r) ∧ Below w.heap.size w w' := by
 have HB := Aside0.mk (Below.refl w.heap.size w)
 have H : ((metrolabref02_crossed.f k a0 a1).bind fun t254 => (if 0 < (t254.length : Int) then (if 1 < (t254.length : Int) then ((metrolabref01_Plus.f k (rdOf ByteArray.empty t254 0) (rdOf ByteArray.empty t254 1)).bind fun t259 => (if 2 < (t254.length : Int) then ((metrolabref02_Lowest.f k t259 (rdOf ByteArray.empty t254 2)).bind fun t261 => (some t261)) else (none))) else (none)) else (none))) = some r := h
 clear h
 obtain ⟨t254, A3, H⟩ := bindA H
 by_cases c4 : 0 < (t254.length : Int)
 ·rw [if_pos c4] at H
  have c4b0 : decide (0 < (t254.length : Int)) = true := decide_eq_true c4
  have c4b1 : decide (0 < t254.length) = true := decide_eq_true (by omega)
  clear c4
  by_cases c5 : 1 < (t254.length : Int)
  ·rw [if_pos c5] at H
   have c5b0 : decide (1 < (t254.length : Int)) = true := decide_eq_true c5
   have c5b1 : decide (1 < t254.length) = true := decide_eq_true (by omega)
   clear c5
   obtain ⟨t259, A6, H⟩ := bindA H
   by_cases c7 : 2 < (t254.length : Int)
   ·rw [if_pos c7] at H
    have c7b0 : decide (2 < (t254.length : Int)) = true := decide_eq_true c7
    have c7b1 : decide (2 < t254.length) = true := decide_eq_true (by omega)
    clear c7
    obtain ⟨t261, A8, H⟩ := bindA H
    obtain rfl := Option.some.inj H
    go_enter Tryz.func66, Tryz.ntmps66
    try go_wp2_with (first | ((with_reducible refine gate_callee (f := 74) rfl ?_); refine goesL_ (some 8) rfl rfl Tryz.func74 (by kernel_rfl) rfl #[.string a0, .string a1] rfl z9_ ?_; (with_reducible refine (metrolabref02_crossed.calls k a0 a1 t254 _ A3.out).mono ?_); rintro e w9 ⟨v255, rfl, ho0, hb⟩; refine ⟨_, rfl, ?_⟩; have n0_ := Aside0.mk (Kd.R_lower ho0 (below_size z10_)); have n1_ := Aside0.mk (below_step z10_ hb); clear HB; have HO256 := n0_; have HB := n1_; clear n0_ n1_; (try clear hb); (try clear hb2); (try clear hk); (try clear hi); (try clear ho0)))
    have n0_ := Aside0.mk (Kd.R_drew HO256.out)
    have n1_ := Aside0.mk (below_drew1 HB.out)
    clear HO256
    clear HB
    have HO256 := n0_
    have HB := n1_
    clear n0_ n1_
    obtain ⟨Ao11, co11, eo11⟩ := Kd.R_slice HO256.out
    (first | subst eo11 | (injection eo11 with f1_ f2_ f3_; have f4_ := f1_.symm; have f5_ := f3_.symm; clear f1_ f2_ f3_; subst f4_; subst f5_))
    have p257 : 0 ≤ (0 : Int) := (by omega)
    have q257 : 0 < (t254.length : Int) := of_decide_eq_true z26_
    obtain ⟨ad257, e257, hx257_0⟩ := Kd.at_string (Kd.R_reads' HO256.out).2.2 0 p257 q257
    cases e257
    have qi257 : (0 < t254.length) = True := eq_true (by omega)
    (try rw [show ((0 : Int)).toNat = 0 from rfl] at hx257_0)
    (try rw [Addr.add_zero'] at hx257_0)
    replace p257 := eq_true p257
    replace q257 := eq_true q257
    have p258 : 0 ≤ (1 : Int) := (by omega)
    have q258 : 1 < (t254.length : Int) := of_decide_eq_true z26_
    obtain ⟨ad258, e258, hx258_0⟩ := Kd.at_string (Kd.R_reads' HO256.out).2.2 1 p258 q258
    obtain rfl : ad257 = ad258 := (by injection e258)
    (try simp only [show (1 : Int).toNat = 1 from rfl, Nat.reduceMul, Nat.reduceEqDiff, Go.Addr.add, ↓reduceIte] at hx258_0)
    have qi258 : (1 < t254.length) = True := eq_true (by omega)
    (try rw [show ((1 : Int)).toNat = 1 from rfl] at hx258_0)
    replace p258 := eq_true p258
    replace q258 := eq_true q258
    have p260 : 0 ≤ (2 : Int) := (by omega)
    have q260 : 2 < (t254.length : Int) := of_decide_eq_true z26_
    obtain ⟨ad260, e260, hx260_0⟩ := Kd.at_string (Kd.R_reads' HO256.out).2.2 2 p260 q260
    obtain rfl : ad257 = ad260 := (by injection e260)
    (try simp only [show (2 : Int).toNat = 2 from rfl, Nat.reduceMul, Nat.reduceEqDiff, Go.Addr.add, ↓reduceIte] at hx260_0)
    have qi260 : (2 < t254.length) = True := eq_true (by omega)
    (try rw [show ((2 : Int)).toNat = 2 from rfl] at hx260_0)
    replace p260 := eq_true p260
    replace q260 := eq_true q260
    refine start_ (n := 12) (S := fun w' => w'.cell? ad257 = some (.string (rdOf ByteArray.empty t254 0)) ∧ w'.cell? ⟨ad257.block, ad257.off + 1, none⟩ = some (.string (rdOf ByteArray.empty t254 1)) ∧ w'.cell? ⟨ad257.block, ad257.off + 2, none⟩ = some (.string (rdOf ByteArray.empty t254 2))) (ds := []) #[false, false, false, false, false, false, false, false, false, false, false, false] (by kernel_rfl) rfl rfl ⟨hx257_0, hx258_0, hx260_0⟩ (fun hHeld => ?_); refine with_tabW metrolabref02_Plus.tab2 metrolabref02_Plus.bits2 (fun HT_ HW_ => ?_)
    generalize w9.drew = w10 at HO256 HB hx257_0 hx258_0 hx260_0 hHeld ⊢
    refine pure_ (i := 0) (N := some 9) (v := ?_) (a' := ?_) #[true, false, false, false, false, false, false, false, false, false, false, false] rfl rfl (any_of HT_.out (by kernel_rfl)) (fun _ _ _ h => h) (Or.inl ⟨by rfl, ?_⟩) ?_ ?_
    rotate_left
    ·intro w'
     go_simp
     with_reducible rfl
    rotate_left
    ·simp only [Act.put, List.setIfInBounds_toArray, List.set_cons_zero, List.set_cons_succ, i64_w, i32_w]
     rfl
    refine pure_ (i := 1) (N := some 10) (v := ?_) (a' := ?_) #[true, true, false, false, false, false, false, false, false, false, false, false] rfl rfl (any_of HT_.out (by kernel_rfl)) (fun _ _ _ h => h) (Or.inl ⟨by rfl, ?_⟩) ?_ ?_
    rotate_left
    ·intro w'
     go_simp
     with_reducible rfl
    rotate_left
    ·simp only [Act.put, List.setIfInBounds_toArray, List.set_cons_zero, List.set_cons_succ, i64_w, i32_w]
     rfl
    refine pure_ (i := 3) (N := some 12) (v := ?_) (a' := ?_) #[true, true, false, true, false, false, false, false, false, false, false, false] rfl rfl (any_of HT_.out (by kernel_rfl)) (fun _ _ _ h => h) (Or.inl ⟨by rfl, ?_⟩) ?_ ?_
    rotate_left
    ·intro w'
     go_simp
     with_reducible rfl
    rotate_left
    ·simp only [Act.put, List.setIfInBounds_toArray, List.set_cons_zero, List.set_cons_succ, i64_w, i32_w]
     rfl
    refine pure_ (i := 4) (N := some 13) (v := ?_) (a' := ?_) #[true, true, false, true, true, false, false, false, false, false, false, false] rfl rfl (any_of HT_.out (by kernel_rfl)) (fun _ _ _ h => h) (Or.inl ⟨by rfl, ?_⟩) ?_ ?_
    rotate_left
    ·intro w'
     go_simp
     with_reducible rfl
    rotate_left
    ·simp only [Act.put, List.setIfInBounds_toArray, List.set_cons_zero, List.set_cons_succ, i64_w, i32_w]
     rfl
    refine pure_ (i := 7) (N := some 16) (v := ?_) (a' := ?_) #[true, true, false, true, true, false, false, true, false, false, false, false] rfl rfl (any_of HT_.out (by kernel_rfl)) (fun _ _ _ h => h) (Or.inl ⟨by rfl, ?_⟩) ?_ ?_
    rotate_left
    ·intro w'
     go_simp
     with_reducible rfl
    rotate_left
    ·simp only [Act.put, List.setIfInBounds_toArray, List.set_cons_zero, List.set_cons_succ, i64_w, i32_w]
     rfl
    refine pure_ (i := 8) (N := some 17) (v := ?_) (a' := ?_) #[true, true, false, true, true, false, false, true, true, false, false, false] rfl rfl (any_of HT_.out (by kernel_rfl)) (fun _ _ _ h => h) (Or.inl ⟨by rfl, ?_⟩) ?_ ?_
    rotate_left
    ·intro w'
     go_simp
     with_reducible rfl
    rotate_left
    ·simp only [Act.put, List.setIfInBounds_toArray, List.set_cons_zero, List.set_cons_succ, i64_w, i32_w]
     rfl
    refine take_ (i := 2) (N := some 11) (v := ?_) (a' := ?_) #[true, true, true, true, true, false, false, true, true, false, false, false] rfl rfl (take_ofW HT_.out HW_.out (by kernel_rfl)) (fun _ _ _ h => h) (Or.inl ⟨by rfl, ?_⟩) hHeld ?_ ?_
    rotate_left
    ·rintro w' ⟨s0, s1, s2⟩
     go_simp
     with_reducible rfl
    rotate_left
    ·simp only [Act.put, List.setIfInBounds_toArray, List.set_cons_zero, List.set_cons_succ, i64_w, i32_w]
     rfl
    refine take_ (i := 5) (N := some 14) (v := ?_) (a' := ?_) #[true, true, true, true, true, true, false, true, true, false, false, false] rfl rfl (take_ofW HT_.out HW_.out (by kernel_rfl)) (fun _ _ _ h => h) (Or.inl ⟨by rfl, ?_⟩) hHeld ?_ ?_
    rotate_left
    ·rintro w' ⟨s0, s1, s2⟩
     go_simp
     with_reducible rfl
    rotate_left
    ·simp only [Act.put, List.setIfInBounds_toArray, List.set_cons_zero, List.set_cons_succ, i64_w, i32_w]
     rfl
    refine take_ (i := 9) (N := some 18) (v := ?_) (a' := ?_) #[true, true, true, true, true, true, false, true, true, true, false, false] rfl rfl (take_ofW HT_.out HW_.out (by kernel_rfl)) (fun _ _ _ h => h) (Or.inl ⟨by rfl, ?_⟩) hHeld ?_ ?_
    rotate_left
    ·rintro w' ⟨s0, s1, s2⟩
     go_simp
     with_reducible rfl
    rotate_left
    ·simp only [Act.put, List.setIfInBounds_toArray, List.set_cons_zero, List.set_cons_succ, i64_w, i32_w]
     rfl
    refine one_ (i := 6) (N := some 15) #[true, true, true, true, true, true, true, true, true, true, false, false] rfl rfl (one_of HT_.out (by kernel_rfl)) (by decide) (fun K hK => ?_)
    refine goes_ Tryz.func76 (by kernel_rfl) rfl #[.string (rdOf ByteArray.empty t254 0), .string (rdOf ByteArray.empty t254 1)] (by rfl) rfl rfl z9_ ?_
    with_reducible refine (metrolabref01_Plus.calls k (rdOf ByteArray.empty t254 0) (rdOf ByteArray.empty t254 1) t259 _ A6.out).mono ?_
    rintro e w12 ⟨rfl, hb⟩
    have HS0_ := (hb.cell (World.block_lt_of_cell? _ _ (hHeld.1))).trans (hHeld.1)
    have HS1_ := (hb.cell (World.block_lt_of_cell? _ _ (hHeld.2.1))).trans (hHeld.2.1)
    have HS2_ := (hb.cell (World.block_lt_of_cell? _ _ (hHeld.2.2))).trans (hHeld.2.2)
    refine ⟨_, rfl, ?_⟩
    have n0_ := Aside0.mk (Kd.R_below (by (with_reducible repeat (first | apply Kd.R_alloc | apply Kd.R_drewN | apply Kd.R_drew)); exact HO256.out) hb)
    have n1_ := Aside0.mk (below_step z10_ hb)
    clear HO256
    clear HB
    have HO256 := n0_
    have HB := n1_
    clear n0_ n1_
    (try clear hb)
    (try clear hb2)
    (try clear hk)
    (try clear hi)
    refine hK.out _ _ ⟨HS0_, HS1_, HS2_⟩ (fun hHeld => ?_)
    clear hK K
    refine norm_ (a' := ?_) ?_ ?_
    rotate_left
    ·show Act.put _ (some 15) _ = _
     simp only [Act.put, List.setIfInBounds_toArray, List.set_cons_zero, List.set_cons_succ, i64_w, i32_w]
     rfl
    refine one_ (i := 10) (N := some 19) #[true, true, true, true, true, true, true, true, true, true, true, false] rfl rfl (one_of HT_.out (by kernel_rfl)) (by decide) (fun K hK => ?_)
    refine goes_ Tryz.func109 (by kernel_rfl) rfl #[.string t259, .string (rdOf ByteArray.empty t254 2)] (by rfl) rfl rfl z9_ ?_
    with_reducible refine (metrolabref02_Lowest.calls k t259 (rdOf ByteArray.empty t254 2) t261 _ A8.out).mono ?_
    rintro e w13 ⟨rfl, hb⟩
    have HS0_ := (hb.cell (World.block_lt_of_cell? _ _ (hHeld.1))).trans (hHeld.1)
    have HS1_ := (hb.cell (World.block_lt_of_cell? _ _ (hHeld.2.1))).trans (hHeld.2.1)
    have HS2_ := (hb.cell (World.block_lt_of_cell? _ _ (hHeld.2.2))).trans (hHeld.2.2)
    refine ⟨_, rfl, ?_⟩
    have n0_ := Aside0.mk (Kd.R_below (by (with_reducible repeat (first | apply Kd.R_alloc | apply Kd.R_drewN | apply Kd.R_drew)); exact HO256.out) hb)
    have n1_ := Aside0.mk (below_step z10_ hb)
    clear HO256
    clear HB
    have HO256 := n0_
    have HB := n1_
    clear n0_ n1_
    (try clear hb)
    (try clear hb2)
    (try clear hk)
    (try clear hi)
    refine hK.out _ _ ⟨HS0_, HS1_, HS2_⟩ (fun hHeld => ?_)
    clear hK K
    refine norm_ (a' := ?_) ?_ ?_
    rotate_left
    ·show Act.put _ (some 19) _ = _
     simp only [Act.put, List.setIfInBounds_toArray, List.set_cons_zero, List.set_cons_succ, i64_w, i32_w]
     rfl
    refine pure_ (i := 11) (N := some 4) (v := ?_) (a' := ?_) #[true, true, true, true, true, true, true, true, true, true, true, true] rfl rfl (any_of HT_.out (by kernel_rfl)) (fun _ _ _ h => h) (Or.inl ⟨by rfl, ?_⟩) ?_ ?_
    rotate_left
    ·intro w'
     go_simp
     with_reducible rfl
    rotate_left
    ·simp only [Act.put, List.setIfInBounds_toArray, List.set_cons_zero, List.set_cons_succ, i64_w, i32_w]
     rfl
    refine done_ (done_of HT_.out (by kernel_rfl)) ?_
    try go_wp2
    go_ret
    exact ⟨z24_, z10_⟩
   ·rw [if_neg c7] at H
    exact absurd H (by simp)
  ·rw [if_neg c5] at H
   exact absurd H (by simp)
 ·rw [if_neg c4] at H
  exact absurd H (by simp)
end Go.Proofs.YtkdpcgmnkifbbaaGreatDoor.R
end
section
namespace Go.Proofs.YtkdpcgmnkifbbaaGreatDoor.R
open Go.RowKit Go.Proofs.YtkdpcgmnkifbbaaGreatDoorW.PrintWords Go.Proofs.YtkdpcgmnkifbbaaGreatDoorW.PrintLast Go.Proofs.YtkdpcgmnkifbbaaGreatDoorW.PrintMore
attribute [local go_sem] max2_int min2_int max_two min_two max_three min_three max_four min_four
set_option linter.unusedVariables false
set_option linter.unusedSimpArgs false
def metrolabref02_Minus.f (k : Nat) (a0 : ByteArray) (a1 : ByteArray) : Option (ByteArray) := (metrolabref02_crossed.f k a0 a1).bind fun t262 => (if 0 < (t262.length : Int) then (if 1 < (t262.length : Int) then ((metrolabref01_Minus.f k (rdOf ByteArray.empty t262 0) (rdOf ByteArray.empty t262 1)).bind fun t267 => (if 2 < (t262.length : Int) then ((metrolabref02_Lowest.f k t267 (rdOf ByteArray.empty t262 2)).bind fun t269 => (some t269)) else (none))) else (none)) else (none))
def metrolabref02_Minus.T2 : Bool × List (List Nat × List Nat) := (true, [([], []), ([0], [0]), ([1], [1]), ([], []), ([3], [3]), ([4], [4]), ([2, 5], [2, 5]), ([], []), ([7], [7]), ([8], [8]), ([6, 9, 6], [6, 9]), ([10, 10, 0, 1, 2, 3, 4, 5, 6, 7, 8, 9, 10], [10])])
def metrolabref02_Minus.B2 : List Nat := [0, 1, 3, 0, 8, 24, 63, 0, 128, 384, 1023, 2047]
theorem metrolabref02_Minus.tab2 : rtab .any (opsOf Tryz.f86 2) = metrolabref02_Minus.T2 := by kernel_rfl
theorem metrolabref02_Minus.bits2 : waitsOk metrolabref02_Minus.T2.2 metrolabref02_Minus.B2 = true := by kernel_rfl
set_option maxHeartbeats 8000000 in
set_option maxRecDepth 100000 in
theorem metrolabref02_Minus.calls (k : Nat) (a0 : ByteArray) (a1 : ByteArray) (r : ByteArray) (w : World) (h : metrolabref02_Minus.f k a0 a1 = some r) :
  Calls Tryz.prog 86 #[.string a0, .string a1] w fun e w' => e = .returned (.string r) ∧ Below w.heap.size w w' := by
 have HB := Aside0.mk (Below.refl w.heap.size w)
 have H : ((metrolabref02_crossed.f k a0 a1).bind fun t262 => (if 0 < (t262.length : Int) then (if 1 < (t262.length : Int) then ((metrolabref01_Minus.f k (rdOf ByteArray.empty t262 0) (rdOf ByteArray.empty t262 1)).bind fun t267 => (if 2 < (t262.length : Int) then ((metrolabref02_Lowest.f k t267 (rdOf ByteArray.empty t262 2)).bind fun t269 => (some t269)) else (none))) else (none)) else (none))) = some r := h
 clear h
 obtain ⟨t262, A3, H⟩ := bindA H
 by_cases c4 : 0 < (t262.length : Int)
 ·rw [if_pos c4] at H
  have c4b0 : decide (0 < (t262.length : Int)) = true := decide_eq_true c4
  have c4b1 : decide (0 < t262.length) = true := decide_eq_true (by omega)
  clear c4
  by_cases c5 : 1 < (t262.length : Int)
  ·rw [if_pos c5] at H
   have c5b0 : decide (1 < (t262.length : Int)) = true := decide_eq_true c5
   have c5b1 : decide (1 < t262.length) = true := decide_eq_true (by omega)
   clear c5
   obtain ⟨t267, A6, H⟩ := bindA H
   by_cases c7 : 2 < (t262.length : Int)
   ·rw [if_pos c7] at H
    have c7b0 : decide (2 < (t262.length : Int)) = true := decide_eq_true c7
    have c7b1 : decide (2 < t262.length) = true := decide_eq_true (by omega)
    clear c7
    obtain ⟨t269, A8, H⟩ := bindA H
    obtain rfl := Option.some.inj H
    go_enter Tryz.func86, Tryz.ntmps86
    try go_wp2_with (first | ((with_reducible refine gate_callee (f := 74) rfl ?_); refine goesL_ (some 8) rfl rfl Tryz.func74 (by kernel_rfl) rfl #[.string a0, .string a1] rfl z9_ ?_; (with_reducible refine (metrolabref02_crossed.calls k a0 a1 t262 _ A3.out).mono ?_); rintro e w9 ⟨v263, rfl, ho0, hb⟩; refine ⟨_, rfl, ?_⟩; have n0_ := Aside0.mk (Kd.R_lower ho0 (below_size z10_)); have n1_ := Aside0.mk (below_step z10_ hb); clear HB; have HO264 := n0_; have HB := n1_; clear n0_ n1_; (try clear hb); (try clear hb2); (try clear hk); (try clear hi); (try clear ho0)))
    have n0_ := Aside0.mk (Kd.R_drew HO264.out)
    have n1_ := Aside0.mk (below_drew1 HB.out)
    clear HO264
    clear HB
    have HO264 := n0_
    have HB := n1_
    clear n0_ n1_
    obtain ⟨Ao11, co11, eo11⟩ := Kd.R_slice HO264.out
    (first | subst eo11 | (injection eo11 with f1_ f2_ f3_; have f4_ := f1_.symm; have f5_ := f3_.symm; clear f1_ f2_ f3_; subst f4_; subst f5_))
    have p265 : 0 ≤ (0 : Int) := (by omega)
    have q265 : 0 < (t262.length : Int) := of_decide_eq_true z26_
    obtain ⟨ad265, e265, hx265_0⟩ := Kd.at_string (Kd.R_reads' HO264.out).2.2 0 p265 q265
    cases e265
    have qi265 : (0 < t262.length) = True := eq_true (by omega)
    (try rw [show ((0 : Int)).toNat = 0 from rfl] at hx265_0)
    (try rw [Addr.add_zero'] at hx265_0)
    replace p265 := eq_true p265
    replace q265 := eq_true q265
    have p266 : 0 ≤ (1 : Int) := (by omega)
    have q266 : 1 < (t262.length : Int) := of_decide_eq_true z26_
    obtain ⟨ad266, e266, hx266_0⟩ := Kd.at_string (Kd.R_reads' HO264.out).2.2 1 p266 q266
    obtain rfl : ad265 = ad266 := (by injection e266)
    (try simp only [show (1 : Int).toNat = 1 from rfl, Nat.reduceMul, Nat.reduceEqDiff, Go.Addr.add, ↓reduceIte] at hx266_0)
    have qi266 : (1 < t262.length) = True := eq_true (by omega)
    (try rw [show ((1 : Int)).toNat = 1 from rfl] at hx266_0)
    replace p266 := eq_true p266
    replace q266 := eq_true q266
    have p268 : 0 ≤ (2 : Int) := (by omega)
    have q268 : 2 < (t262.length : Int) := of_decide_eq_true z26_
    obtain ⟨ad268, e268, hx268_0⟩ := Kd.at_string (Kd.R_reads' HO264.out).2.2 2 p268 q268
    obtain rfl : ad265 = ad268 := (by injection e268)
    (try simp only [show (2 : Int).toNat = 2 from rfl, Nat.reduceMul, Nat.reduceEqDiff, Go.Addr.add, ↓reduceIte] at hx268_0)
    have qi268 : (2 < t262.length) = True := eq_true (by omega)
    (try rw [show ((2 : Int)).toNat = 2 from rfl] at hx268_0)
    replace p268 := eq_true p268
    replace q268 := eq_true q268
    refine start_ (n := 12) (S := fun w' => w'.cell? ad265 = some (.string (rdOf ByteArray.empty t262 0)) ∧ w'.cell? ⟨ad265.block, ad265.off + 1, none⟩ = some (.string (rdOf ByteArray.empty t262 1)) ∧ w'.cell? ⟨ad265.block, ad265.off + 2, none⟩ = some (.string (rdOf ByteArray.empty t262 2))) (ds := []) #[false, false, false, false, false, false, false, false, false, false, false, false] (by kernel_rfl) rfl rfl ⟨hx265_0, hx266_0, hx268_0⟩ (fun hHeld => ?_); refine with_tabW metrolabref02_Minus.tab2 metrolabref02_Minus.bits2 (fun HT_ HW_ => ?_)
    generalize w9.drew = w10 at HO264 HB hx265_0 hx266_0 hx268_0 hHeld ⊢
    refine pure_ (i := 0) (N := some 9) (v := ?_) (a' := ?_) #[true, false, false, false, false, false, false, false, false, false, false, false] rfl rfl (any_of HT_.out (by kernel_rfl)) (fun _ _ _ h => h) (Or.inl ⟨by rfl, ?_⟩) ?_ ?_
    rotate_left
    ·intro w'
     go_simp
     with_reducible rfl
    rotate_left
    ·simp only [Act.put, List.setIfInBounds_toArray, List.set_cons_zero, List.set_cons_succ, i64_w, i32_w]
     rfl
    refine pure_ (i := 1) (N := some 10) (v := ?_) (a' := ?_) #[true, true, false, false, false, false, false, false, false, false, false, false] rfl rfl (any_of HT_.out (by kernel_rfl)) (fun _ _ _ h => h) (Or.inl ⟨by rfl, ?_⟩) ?_ ?_
    rotate_left
    ·intro w'
     go_simp
     with_reducible rfl
    rotate_left
    ·simp only [Act.put, List.setIfInBounds_toArray, List.set_cons_zero, List.set_cons_succ, i64_w, i32_w]
     rfl
    refine pure_ (i := 3) (N := some 12) (v := ?_) (a' := ?_) #[true, true, false, true, false, false, false, false, false, false, false, false] rfl rfl (any_of HT_.out (by kernel_rfl)) (fun _ _ _ h => h) (Or.inl ⟨by rfl, ?_⟩) ?_ ?_
    rotate_left
    ·intro w'
     go_simp
     with_reducible rfl
    rotate_left
    ·simp only [Act.put, List.setIfInBounds_toArray, List.set_cons_zero, List.set_cons_succ, i64_w, i32_w]
     rfl
    refine pure_ (i := 4) (N := some 13) (v := ?_) (a' := ?_) #[true, true, false, true, true, false, false, false, false, false, false, false] rfl rfl (any_of HT_.out (by kernel_rfl)) (fun _ _ _ h => h) (Or.inl ⟨by rfl, ?_⟩) ?_ ?_
    rotate_left
    ·intro w'
     go_simp
     with_reducible rfl
    rotate_left
    ·simp only [Act.put, List.setIfInBounds_toArray, List.set_cons_zero, List.set_cons_succ, i64_w, i32_w]
     rfl
    refine pure_ (i := 7) (N := some 16) (v := ?_) (a' := ?_) #[true, true, false, true, true, false, false, true, false, false, false, false] rfl rfl (any_of HT_.out (by kernel_rfl)) (fun _ _ _ h => h) (Or.inl ⟨by rfl, ?_⟩) ?_ ?_
    rotate_left
    ·intro w'
     go_simp
     with_reducible rfl
    rotate_left
    ·simp only [Act.put, List.setIfInBounds_toArray, List.set_cons_zero, List.set_cons_succ, i64_w, i32_w]
     rfl
    refine pure_ (i := 8) (N := some 17) (v := ?_) (a' := ?_) #[true, true, false, true, true, false, false, true, true, false, false, false] rfl rfl (any_of HT_.out (by kernel_rfl)) (fun _ _ _ h => h) (Or.inl ⟨by rfl, ?_⟩) ?_ ?_
    rotate_left
    ·intro w'
     go_simp
     with_reducible rfl
    rotate_left
    ·simp only [Act.put, List.setIfInBounds_toArray, List.set_cons_zero, List.set_cons_succ, i64_w, i32_w]
     rfl
    refine take_ (i := 2) (N := some 11) (v := ?_) (a' := ?_) #[true, true, true, true, true, false, false, true, true, false, false, false] rfl rfl (take_ofW HT_.out HW_.out (by kernel_rfl)) (fun _ _ _ h => h) (Or.inl ⟨by rfl, ?_⟩) hHeld ?_ ?_
    rotate_left
    ·rintro w' ⟨s0, s1, s2⟩
     go_simp
     with_reducible rfl
    rotate_left
    ·simp only [Act.put, List.setIfInBounds_toArray, List.set_cons_zero, List.set_cons_succ, i64_w, i32_w]
     rfl
    refine take_ (i := 5) (N := some 14) (v := ?_) (a' := ?_) #[true, true, true, true, true, true, false, true, true, false, false, false] rfl rfl (take_ofW HT_.out HW_.out (by kernel_rfl)) (fun _ _ _ h => h) (Or.inl ⟨by rfl, ?_⟩) hHeld ?_ ?_
    rotate_left
    ·rintro w' ⟨s0, s1, s2⟩
     go_simp
     with_reducible rfl
    rotate_left
    ·simp only [Act.put, List.setIfInBounds_toArray, List.set_cons_zero, List.set_cons_succ, i64_w, i32_w]
     rfl
    refine take_ (i := 9) (N := some 18) (v := ?_) (a' := ?_) #[true, true, true, true, true, true, false, true, true, true, false, false] rfl rfl (take_ofW HT_.out HW_.out (by kernel_rfl)) (fun _ _ _ h => h) (Or.inl ⟨by rfl, ?_⟩) hHeld ?_ ?_
    rotate_left
    ·rintro w' ⟨s0, s1, s2⟩
     go_simp
     with_reducible rfl
    rotate_left
    ·simp only [Act.put, List.setIfInBounds_toArray, List.set_cons_zero, List.set_cons_succ, i64_w, i32_w]
     rfl
    refine one_ (i := 6) (N := some 15) #[true, true, true, true, true, true, true, true, true, true, false, false] rfl rfl (one_of HT_.out (by kernel_rfl)) (by decide) (fun K hK => ?_)
    refine goes_ Tryz.func91 (by kernel_rfl) rfl #[.string (rdOf ByteArray.empty t262 0), .string (rdOf ByteArray.empty t262 1)] (by rfl) rfl rfl z9_ ?_
    with_reducible refine (metrolabref01_Minus.calls k (rdOf ByteArray.empty t262 0) (rdOf ByteArray.empty t262 1) t267 _ A6.out).mono ?_
    rintro e w12 ⟨rfl, hb⟩
    have HS0_ := (hb.cell (World.block_lt_of_cell? _ _ (hHeld.1))).trans (hHeld.1)
    have HS1_ := (hb.cell (World.block_lt_of_cell? _ _ (hHeld.2.1))).trans (hHeld.2.1)
    have HS2_ := (hb.cell (World.block_lt_of_cell? _ _ (hHeld.2.2))).trans (hHeld.2.2)
    refine ⟨_, rfl, ?_⟩
    have n0_ := Aside0.mk (Kd.R_below (by (with_reducible repeat (first | apply Kd.R_alloc | apply Kd.R_drewN | apply Kd.R_drew)); exact HO264.out) hb)
    have n1_ := Aside0.mk (below_step z10_ hb)
    clear HO264
    clear HB
    have HO264 := n0_
    have HB := n1_
    clear n0_ n1_
    (try clear hb)
    (try clear hb2)
    (try clear hk)
    (try clear hi)
    refine hK.out _ _ ⟨HS0_, HS1_, HS2_⟩ (fun hHeld => ?_)
    clear hK K
    refine norm_ (a' := ?_) ?_ ?_
    rotate_left
    ·show Act.put _ (some 15) _ = _
     simp only [Act.put, List.setIfInBounds_toArray, List.set_cons_zero, List.set_cons_succ, i64_w, i32_w]
     rfl
    refine one_ (i := 10) (N := some 19) #[true, true, true, true, true, true, true, true, true, true, true, false] rfl rfl (one_of HT_.out (by kernel_rfl)) (by decide) (fun K hK => ?_)
    refine goes_ Tryz.func109 (by kernel_rfl) rfl #[.string t267, .string (rdOf ByteArray.empty t262 2)] (by rfl) rfl rfl z9_ ?_
    with_reducible refine (metrolabref02_Lowest.calls k t267 (rdOf ByteArray.empty t262 2) t269 _ A8.out).mono ?_
    rintro e w13 ⟨rfl, hb⟩
    have HS0_ := (hb.cell (World.block_lt_of_cell? _ _ (hHeld.1))).trans (hHeld.1)
    have HS1_ := (hb.cell (World.block_lt_of_cell? _ _ (hHeld.2.1))).trans (hHeld.2.1)
    have HS2_ := (hb.cell (World.block_lt_of_cell? _ _ (hHeld.2.2))).trans (hHeld.2.2)
    refine ⟨_, rfl, ?_⟩
    have n0_ := Aside0.mk (Kd.R_below (by (with_reducible repeat (first | apply Kd.R_alloc | apply Kd.R_drewN | apply Kd.R_drew)); exact HO264.out) hb)
    have n1_ := Aside0.mk (below_step z10_ hb)
    clear HO264
    clear HB
    have HO264 := n0_
    have HB := n1_
    clear n0_ n1_
    (try clear hb)
    (try clear hb2)
    (try clear hk)
    (try clear hi)
    refine hK.out _ _ ⟨HS0_, HS1_, HS2_⟩ (fun hHeld => ?_)
    clear hK K
    refine norm_ (a' := ?_) ?_ ?_
    rotate_left
    ·show Act.put _ (some 19) _ = _
     simp only [Act.put, List.setIfInBounds_toArray, List.set_cons_zero, List.set_cons_succ, i64_w, i32_w]
     rfl
    refine pure_ (i := 11) (N := some 4) (v := ?_) (a' := ?_) #[true, true, true, true, true, true, true, true, true, true, true, true] rfl rfl (any_of HT_.out (by kernel_rfl)) (fun _ _ _ h => h) (Or.inl ⟨by rfl, ?_⟩) ?_ ?_
    rotate_left
    ·intro w'
     go_simp
     with_reducible rfl
    rotate_left
    ·simp only [Act.put, List.setIfInBounds_toArray, List.set_cons_zero, List.set_cons_succ, i64_w, i32_w]
     rfl
    refine done_ (done_of HT_.out (by kernel_rfl)) ?_
    try go_wp2
    go_ret
    exact ⟨z24_, z10_⟩
   ·rw [if_neg c7] at H
    exact absurd H (by simp)
  ·rw [if_neg c5] at H
   exact absurd H (by simp)
 ·rw [if_neg c4] at H
  exact absurd H (by simp)
def metrolabref02_Times.f (k : Nat) (a0 : ByteArray) (a1 : ByteArray) : Option (ByteArray) := (metrolabref02_crossed.f k a0 a1).bind fun t270 => (if 3 < (t270.length : Int) then (if 2 < (t270.length : Int) then ((metrolabref02_Lowest.f k (rdOf ByteArray.empty t270 3) (rdOf ByteArray.empty t270 2)).bind fun t275 => (some t275)) else (none)) else (none))
def metrolabref02_Times.T2 : Bool × List (List Nat × List Nat) := (true, [([], []), ([0], [0]), ([1], [1]), ([], []), ([3], [3]), ([4], [4]), ([2, 5], [2, 5]), ([6, 6, 0, 1, 2, 3, 4, 5, 6], [6])])
def metrolabref02_Times.B2 : List Nat := [0, 1, 3, 0, 8, 24, 63, 127]
theorem metrolabref02_Times.tab2 : rtab .any (opsOf Tryz.f80 2) = metrolabref02_Times.T2 := by kernel_rfl
theorem metrolabref02_Times.bits2 : waitsOk metrolabref02_Times.T2.2 metrolabref02_Times.B2 = true := by kernel_rfl
set_option maxHeartbeats 8000000 in
set_option maxRecDepth 100000 in
theorem metrolabref02_Times.calls (k : Nat) (a0 : ByteArray) (a1 : ByteArray) (r : ByteArray) (w : World) (h : metrolabref02_Times.f k a0 a1 = some r) :
  Calls Tryz.prog 80 #[.string a0, .string a1] w fun e w' => e = .returned (.string r) ∧ Below w.heap.size w w' := by
 have HB := Aside0.mk (Below.refl w.heap.size w)
 have H : ((metrolabref02_crossed.f k a0 a1).bind fun t270 => (if 3 < (t270.length : Int) then (if 2 < (t270.length : Int) then ((metrolabref02_Lowest.f k (rdOf ByteArray.empty t270 3) (rdOf ByteArray.empty t270 2)).bind fun t275 => (some t275)) else (none)) else (none))) = some r := h
 clear h
 obtain ⟨t270, A3, H⟩ := bindA H
 by_cases c4 : 3 < (t270.length : Int)
 ·rw [if_pos c4] at H
  have c4b0 : decide (3 < (t270.length : Int)) = true := decide_eq_true c4
  have c4b1 : decide (3 < t270.length) = true := decide_eq_true (by omega)
  clear c4
  by_cases c5 : 2 < (t270.length : Int)
  ·rw [if_pos c5] at H
   have c5b0 : decide (2 < (t270.length : Int)) = true := decide_eq_true c5
   have c5b1 : decide (2 < t270.length) = true := decide_eq_true (by omega)
   clear c5
   obtain ⟨t275, A6, H⟩ := bindA H
   obtain rfl := Option.some.inj H
   go_enter Tryz.func80, Tryz.ntmps80
   try go_wp2_with (first | ((with_reducible refine gate_callee (f := 74) rfl ?_); refine goesL_ (some 8) rfl rfl Tryz.func74 (by kernel_rfl) rfl #[.string a0, .string a1] rfl z9_ ?_; (with_reducible refine (metrolabref02_crossed.calls k a0 a1 t270 _ A3.out).mono ?_); rintro e w7 ⟨v271, rfl, ho0, hb⟩; refine ⟨_, rfl, ?_⟩; have n0_ := Aside0.mk (Kd.R_lower ho0 (below_size z10_)); have n1_ := Aside0.mk (below_step z10_ hb); clear HB; have HO272 := n0_; have HB := n1_; clear n0_ n1_; (try clear hb); (try clear hb2); (try clear hk); (try clear hi); (try clear ho0)))
   have n0_ := Aside0.mk (Kd.R_drew HO272.out)
   have n1_ := Aside0.mk (below_drew1 HB.out)
   clear HO272
   clear HB
   have HO272 := n0_
   have HB := n1_
   clear n0_ n1_
   obtain ⟨Ao9, co9, eo9⟩ := Kd.R_slice HO272.out
   (first | subst eo9 | (injection eo9 with f1_ f2_ f3_; have f4_ := f1_.symm; have f5_ := f3_.symm; clear f1_ f2_ f3_; subst f4_; subst f5_))
   have p273 : 0 ≤ (3 : Int) := (by omega)
   have q273 : 3 < (t270.length : Int) := of_decide_eq_true z26_
   obtain ⟨ad273, e273, hx273_0⟩ := Kd.at_string (Kd.R_reads' HO272.out).2.2 3 p273 q273
   cases e273
   (try simp only [show (3 : Int).toNat = 3 from rfl, Nat.reduceMul, Nat.reduceEqDiff, Go.Addr.add, ↓reduceIte] at hx273_0)
   have qi273 : (3 < t270.length) = True := eq_true (by omega)
   (try rw [show ((3 : Int)).toNat = 3 from rfl] at hx273_0)
   replace p273 := eq_true p273
   replace q273 := eq_true q273
   have p274 : 0 ≤ (2 : Int) := (by omega)
   have q274 : 2 < (t270.length : Int) := of_decide_eq_true z26_
   obtain ⟨ad274, e274, hx274_0⟩ := Kd.at_string (Kd.R_reads' HO272.out).2.2 2 p274 q274
   obtain rfl : ad273 = ad274 := (by injection e274)
   (try simp only [show (2 : Int).toNat = 2 from rfl, Nat.reduceMul, Nat.reduceEqDiff, Go.Addr.add, ↓reduceIte] at hx274_0)
   have qi274 : (2 < t270.length) = True := eq_true (by omega)
   (try rw [show ((2 : Int)).toNat = 2 from rfl] at hx274_0)
   replace p274 := eq_true p274
   replace q274 := eq_true q274
   refine start_ (n := 8) (S := fun w' => w'.cell? ⟨ad273.block, ad273.off + 3, none⟩ = some (.string (rdOf ByteArray.empty t270 3)) ∧ w'.cell? ⟨ad273.block, ad273.off + 2, none⟩ = some (.string (rdOf ByteArray.empty t270 2))) (ds := []) #[false, false, false, false, false, false, false, false] (by kernel_rfl) rfl rfl ⟨hx273_0, hx274_0⟩ (fun hHeld => ?_); refine with_tabW metrolabref02_Times.tab2 metrolabref02_Times.bits2 (fun HT_ HW_ => ?_)
   generalize w7.drew = w8 at HO272 HB hx273_0 hx274_0 hHeld ⊢
   refine pure_ (i := 0) (N := some 9) (v := ?_) (a' := ?_) #[true, false, false, false, false, false, false, false] rfl rfl (any_of HT_.out (by kernel_rfl)) (fun _ _ _ h => h) (Or.inl ⟨by rfl, ?_⟩) ?_ ?_
   rotate_left
   ·intro w'
    go_simp
    with_reducible rfl
   rotate_left
   ·simp only [Act.put, List.setIfInBounds_toArray, List.set_cons_zero, List.set_cons_succ, i64_w, i32_w]
    rfl
   refine pure_ (i := 1) (N := some 10) (v := ?_) (a' := ?_) #[true, true, false, false, false, false, false, false] rfl rfl (any_of HT_.out (by kernel_rfl)) (fun _ _ _ h => h) (Or.inl ⟨by rfl, ?_⟩) ?_ ?_
   rotate_left
   ·intro w'
    go_simp
    with_reducible rfl
   rotate_left
   ·simp only [Act.put, List.setIfInBounds_toArray, List.set_cons_zero, List.set_cons_succ, i64_w, i32_w]
    rfl
   refine pure_ (i := 3) (N := some 12) (v := ?_) (a' := ?_) #[true, true, false, true, false, false, false, false] rfl rfl (any_of HT_.out (by kernel_rfl)) (fun _ _ _ h => h) (Or.inl ⟨by rfl, ?_⟩) ?_ ?_
   rotate_left
   ·intro w'
    go_simp
    with_reducible rfl
   rotate_left
   ·simp only [Act.put, List.setIfInBounds_toArray, List.set_cons_zero, List.set_cons_succ, i64_w, i32_w]
    rfl
   refine pure_ (i := 4) (N := some 13) (v := ?_) (a' := ?_) #[true, true, false, true, true, false, false, false] rfl rfl (any_of HT_.out (by kernel_rfl)) (fun _ _ _ h => h) (Or.inl ⟨by rfl, ?_⟩) ?_ ?_
   rotate_left
   ·intro w'
    go_simp
    with_reducible rfl
   rotate_left
   ·simp only [Act.put, List.setIfInBounds_toArray, List.set_cons_zero, List.set_cons_succ, i64_w, i32_w]
    rfl
   refine take_ (i := 2) (N := some 11) (v := ?_) (a' := ?_) #[true, true, true, true, true, false, false, false] rfl rfl (take_ofW HT_.out HW_.out (by kernel_rfl)) (fun _ _ _ h => h) (Or.inl ⟨by rfl, ?_⟩) hHeld ?_ ?_
   rotate_left
   ·rintro w' ⟨s0, s1⟩
    go_simp
    with_reducible rfl
   rotate_left
   ·simp only [Act.put, List.setIfInBounds_toArray, List.set_cons_zero, List.set_cons_succ, i64_w, i32_w]
    rfl
   refine take_ (i := 5) (N := some 14) (v := ?_) (a' := ?_) #[true, true, true, true, true, true, false, false] rfl rfl (take_ofW HT_.out HW_.out (by kernel_rfl)) (fun _ _ _ h => h) (Or.inl ⟨by rfl, ?_⟩) hHeld ?_ ?_
   rotate_left
   ·rintro w' ⟨s0, s1⟩
    go_simp
    with_reducible rfl
   rotate_left
   ·simp only [Act.put, List.setIfInBounds_toArray, List.set_cons_zero, List.set_cons_succ, i64_w, i32_w]
    rfl
   refine one_ (i := 6) (N := some 15) #[true, true, true, true, true, true, true, false] rfl rfl (one_of HT_.out (by kernel_rfl)) (by decide) (fun K hK => ?_)
   refine goes_ Tryz.func109 (by kernel_rfl) rfl #[.string (rdOf ByteArray.empty t270 3), .string (rdOf ByteArray.empty t270 2)] (by rfl) rfl rfl z9_ ?_
   with_reducible refine (metrolabref02_Lowest.calls k (rdOf ByteArray.empty t270 3) (rdOf ByteArray.empty t270 2) t275 _ A6.out).mono ?_
   rintro e w10 ⟨rfl, hb⟩
   have HS0_ := (hb.cell (World.block_lt_of_cell? _ _ (hHeld.1))).trans (hHeld.1)
   have HS1_ := (hb.cell (World.block_lt_of_cell? _ _ (hHeld.2))).trans (hHeld.2)
   refine ⟨_, rfl, ?_⟩
   have n0_ := Aside0.mk (Kd.R_below (by (with_reducible repeat (first | apply Kd.R_alloc | apply Kd.R_drewN | apply Kd.R_drew)); exact HO272.out) hb)
   have n1_ := Aside0.mk (below_step z10_ hb)
   clear HO272
   clear HB
   have HO272 := n0_
   have HB := n1_
   clear n0_ n1_
   (try clear hb)
   (try clear hb2)
   (try clear hk)
   (try clear hi)
   refine hK.out _ _ ⟨HS0_, HS1_⟩ (fun hHeld => ?_)
   clear hK K
   refine norm_ (a' := ?_) ?_ ?_
   rotate_left
   ·show Act.put _ (some 15) _ = _
    simp only [Act.put, List.setIfInBounds_toArray, List.set_cons_zero, List.set_cons_succ, i64_w, i32_w]
    rfl
   refine pure_ (i := 7) (N := some 4) (v := ?_) (a' := ?_) #[true, true, true, true, true, true, true, true] rfl rfl (any_of HT_.out (by kernel_rfl)) (fun _ _ _ h => h) (Or.inl ⟨by rfl, ?_⟩) ?_ ?_
   rotate_left
   ·intro w'
    go_simp
    with_reducible rfl
   rotate_left
   ·simp only [Act.put, List.setIfInBounds_toArray, List.set_cons_zero, List.set_cons_succ, i64_w, i32_w]
    rfl
   refine done_ (done_of HT_.out (by kernel_rfl)) ?_
   try go_wp2
   go_ret
   exact ⟨z24_, z10_⟩
  ·rw [if_neg c5] at H
   exact absurd H (by simp)
 ·rw [if_neg c4] at H
  exact absurd H (by simp)
def metrolabref02_Whole.f (k : Nat) (a0 : Int) : Option (ByteArray) := (metrolabref01_Of.f k a0).bind fun t285 => (some t285)
set_option maxHeartbeats 8000000 in
set_option maxRecDepth 100000 in
theorem metrolabref02_Whole.calls (k : Nat) (a0 : Int) (r : ByteArray) (w : World) (h : metrolabref02_Whole.f k a0 = some r) :
  Calls Tryz.prog 81 #[.int .i64 a0] w fun e w' => e = .returned (.string r) ∧ Below w.heap.size w w' := by
 have HB := Aside0.mk (Below.refl w.heap.size w)
 have H : ((metrolabref01_Of.f k a0).bind fun t285 => (some t285)) = some r := h
 clear h
 obtain ⟨t285, A2, H⟩ := bindA H
 obtain rfl := Option.some.inj H
 go_enter Tryz.func81, Tryz.ntmps81
 go_wp2_with (first | (refine gy (f := 106) rfl (some 4) rfl Tryz.func106 (metrolabref01_Of.calls k a0 t285 _ A2.out) z10_ ?_; clear HB; intro w3 HB))
 go_ret
 exact ⟨z24_, z10_⟩
end Go.Proofs.YtkdpcgmnkifbbaaGreatDoor.R
end
