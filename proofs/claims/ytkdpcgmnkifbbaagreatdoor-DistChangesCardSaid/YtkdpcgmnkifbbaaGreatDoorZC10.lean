/- Joined by a program of this session out of its texts, with only what the last theorem needs: Rx2. No conditions but those stated. -/
import Derived.Test.YtkdpcgmnkifbbaaGreatDoorZC08
import Derived.Test.YtkdpcgmnkifbbaaGreatDoorZC09
set_option linter.unusedVariables false
set_option linter.unusedSimpArgs false
namespace Go.Proofs.YtkdpcgmnkifbbaaGreatDoorW.PrintLast
end Go.Proofs.YtkdpcgmnkifbbaaGreatDoorW.PrintLast
namespace Go.Proofs.YtkdpcgmnkifbbaaGreatDoorW.PrintMore
end Go.Proofs.YtkdpcgmnkifbbaaGreatDoorW.PrintMore
namespace Go.Proofs.YtkdpcgmnkifbbaaGreatDoorW.PrintWords
end Go.Proofs.YtkdpcgmnkifbbaaGreatDoorW.PrintWords
namespace Go.Proofs.YtkdpcgmnkifbbaaGreatDoor.R
open Go.RowKit Go.Proofs.YtkdpcgmnkifbbaaGreatDoorW.PrintWords Go.Proofs.YtkdpcgmnkifbbaaGreatDoorW.PrintLast Go.Proofs.YtkdpcgmnkifbbaaGreatDoorW.PrintMore
attribute [local go_sem] max2_int min2_int max_two min_two max_three min_three max_four min_four
set_option linter.unusedVariables false
set_option linter.unusedSimpArgs false
def metrolabref01_brief.j0 : Nat → ByteArray → ByteArray → Bool → Option (Int × Int × Bool)
 | 0, _, _, _ => none
 | k + 1, x0, x1, x16 => if x16 = true then (some (0, 0, false)) else ((metrolabref01_number.f k x0).bind fun t117 => ((metrolabref01_number.f k x1).bind fun t118 => (some (t117, t118, true))))
def metrolabref01_brief.f (k : Nat) (a0 : ByteArray) (a1 : ByteArray) : Option (Int × Int × Bool) := (metrolabref01_size.f a0).bind fun t115 => (if (t115.size : Int) > 18 then (metrolabref01_brief.j0 k a0 a1 true) else ((metrolabref01_size.f a1).bind fun t116 => (metrolabref01_brief.j0 k a0 a1 (decide ((t116.size : Int) > 18)))))
set_option maxHeartbeats 8000000 in
set_option maxRecDepth 100000 in
theorem metrolabref01_brief.calls (k : Nat) (a0 : ByteArray) (a1 : ByteArray) (r1 : Int) (r2 : Int) (r3 : Bool) (w : World) (h : metrolabref01_brief.f k a0 a1 = some (r1, r2, r3)) :
  Calls Tryz.prog 105 #[.string a0, .string a1] w fun e w' => e = .returned (.tuple #[.int .i64 r1, .int .i64 r2, .bool r3]) ∧ Drawn0 w w' := by
 have H : ((metrolabref01_size.f a0).bind fun t115 => (if (t115.size : Int) > 18 then (metrolabref01_brief.j0 k a0 a1 true) else ((metrolabref01_size.f a1).bind fun t116 => (metrolabref01_brief.j0 k a0 a1 (decide ((t116.size : Int) > 18)))))) = some (r1, r2, r3) := h
 clear h
 have HC3 := Aside0.mk H
 clear H
 go_enter Tryz.func105, Tryz.ntmps105
 go_upto_region 1 with (fail)
 go_cut [16] (fun v16 wc => ∃ (kq : Nat) (x16_2 : Bool), v16 = .bool x16_2 ∧ Aside0 (metrolabref01_brief.j0 kq a0 a1 x16_2 = some (r1, r2, r3)) ∧ Aside0 (kq ≤ k) ∧ Drawn0 w wc)
 case first =>
  have H := HC3.out
  clear HC3
  obtain ⟨t115, A4, H⟩ := bindA H
  by_cases c5 : (t115.size : Int) > 18
  ·rw [if_pos c5] at H
   have c5b0 : decide (18 < (t115.size : Int)) = true := decide_eq_true c5
   have c5b1 : decide (18 < t115.size) = true := decide_eq_true (by omega)
   clear c5
   (first | rw [c5b0] | (simp only [i64_w, i32_w]; rw [c5b0]) | skip)
   have H' := Aside0.mk H
   clear H
   go_wp2_with (first | (refine gz (f := 90) rfl (some 8) rfl Tryz.func90 (metrolabref01_size.calls a0 t115 _ A4.out) ?_; rintro w' ⟨nd, rfl⟩))
   go_meet
   case rel => exact ⟨_, (true), z25_, H', ⟨by first | omega | exact Nat.le_refl _⟩, by repeat (first | exact Drawn0.refl _ | apply Drawn0.step)⟩
  ·rw [if_neg c5] at H
   have c5b0 : decide (18 < (t115.size : Int)) = false := decide_eq_false c5
   have c5b1 : decide (18 < t115.size) = false := decide_eq_false (by omega)
   clear c5
   (first | rw [c5b0] | (simp only [i64_w, i32_w]; rw [c5b0]) | skip)
   obtain ⟨t116, A6, H⟩ := bindA H
   have H' := Aside0.mk H
   clear H
   go_wp2_with (first | (refine gz (f := 90) rfl (some 8) rfl Tryz.func90 (metrolabref01_size.calls a0 t115 _ A4.out) ?_; rintro w' ⟨nd, rfl⟩) | (go_at_call 90; (with_reducible refine (metrolabref01_size.calls a1 t116 _ A6.out).mono ?_); rintro e w' ⟨rfl, ⟨nd, rfl⟩⟩))
   go_meet
   case rel => exact ⟨_, (decide ((t116.size : Int) > 18)), z25_, H', ⟨by first | omega | exact Nat.le_refl _⟩, by repeat (first | exact Drawn0.refl _ | apply Drawn0.step)⟩
 case rest =>
  clear HC3
  try clear c1
  try clear p2
  try clear c5
  try clear c5b0
  try clear c5b1
  obtain ⟨kq, x16_2, rfl, HA, HJ2, ⟨mc2, rfl⟩⟩ := hcut
  cases kq with
  | zero => exact absurd HA.out (by simp [metrolabref01_brief.j0])
  | succ kj2 =>
   have H := HA.out
   clear HA
   simp only [metrolabref01_brief.j0] at H
   by_cases c7 : x16_2 = true
   ·subst c7
    rw [if_pos rfl] at H
    simp only [Option.some.injEq, Prod.mk.injEq] at H
    obtain ⟨rfl, rfl, rfl⟩ := H
    go_wp2
    go_ret3
    exact ⟨by first | rfl | (simp; done) | (simp [*]; done), by repeat (first | exact Drawn0.refl _ | apply Drawn0.step)⟩
   ·replace c7 := Bool.eq_false_iff.mpr c7
    subst c7
    rw [if_neg (show ¬ (false = true) by decide)] at H
    obtain ⟨t117, A8, H⟩ := bindA H
    obtain ⟨t118, A9, H⟩ := bindA H
    simp only [Option.some.injEq, Prod.mk.injEq] at H
    obtain ⟨rfl, rfl, rfl⟩ := H
    go_wp2_with (first | (refine gz (f := 140) rfl (some 18) rfl Tryz.func140 (metrolabref01_number.calls kj2 a0 t117 _ A8.out) ?_; rintro w' ⟨nd, rfl⟩) | (refine gz (f := 140) rfl (some 20) rfl Tryz.func140 (metrolabref01_number.calls kj2 a1 t118 _ A9.out) ?_; rintro w' ⟨nd, rfl⟩))
    go_ret3
    exact ⟨by first | rfl | (simp; done) | (simp [*]; done), by repeat (first | exact Drawn0.refl _ | apply Drawn0.step)⟩
def metrolabref01_bare.l0 : Nat → ByteArray → Option (ByteArray)
 | 0, _ => none
 | k + 1, x0 => if (x0.size : Int) > 1 then (if 0 < (x0.size : Int) then (if (bt x0 0) = 48 then (if 1 ≤ (x0.size : Int) then (metrolabref01_bare.l0 k (x0.extract 1 x0.size)) else (none)) else (some x0)) else (none)) else (some x0)
def metrolabref01_bare.f (k : Nat) (a0 : ByteArray) : Option (ByteArray) := metrolabref01_bare.l0 k a0
set_option maxHeartbeats 8000000 in
set_option maxRecDepth 100000 in
theorem metrolabref01_bare.calls (k : Nat) (a0 : ByteArray) (r : ByteArray) (w : World) (h : metrolabref01_bare.f k a0 = some r) :
  Calls Tryz.prog 141 #[.string a0] w fun e w' => e = .returned (.string r) ∧ Drawn0 w w' := by
 have H : (metrolabref01_bare.l0 k a0) = some r := h
 clear h
 have H' := Aside0.mk H
 clear H
 go_enter Tryz.func141, Tryz.ntmps141
 go_wp2
 go_loopg [0] k (fun kq v0 w' => ∃ (x0_1 : ByteArray), v0 = .string x0_1 ∧ Aside0 (metrolabref01_bare.l0 kq x0_1 = some r) ∧ Aside0 (kq ≤ k) ∧ Drawn0 w w')
 case atStart => exact ⟨(a0), z25_, H', ⟨Nat.le_refl _⟩, by repeat (first | exact Drawn0.refl _ | apply Drawn0.step)⟩
 case round =>
  clear H'
  try clear c1
  obtain ⟨x0_1, rfl, HA, HK1, ⟨m1, rfl⟩⟩ := hrel
  cases gk with
  | zero => exact absurd HA.out (by simp [metrolabref01_bare.l0])
  | succ k1 =>
   have H := HA.out
   clear HA
   simp only [metrolabref01_bare.l0] at H
   by_cases c2 : (x0_1.size : Int) > 1
   ·rw [if_pos c2] at H
    have c2b0 : decide (1 < (x0_1.size : Int)) = true := decide_eq_true c2
    have c2b1 : decide (1 < x0_1.size) = true := decide_eq_true (by omega)
    clear c2
    by_cases c3 : 0 < (x0_1.size : Int)
    ·rw [if_pos c3] at H
     have c3b0 : decide (0 < (x0_1.size : Int)) = true := decide_eq_true c3
     have c3b1 : decide (0 < x0_1.size) = true := decide_eq_true (by omega)
     clear c3
     by_cases c5 : (bt x0_1 0) = 48
     ·rw [if_pos c5] at H
      have c5b0 := beq_iff_eq.mpr c5
      have c5b1 := bne_eq_false_iff_eq.mpr c5
      clear c5
      by_cases c6 : 1 ≤ (x0_1.size : Int)
      ·rw [if_pos c6] at H
       have c6b0 := eq_true c6
       have c6b1 : decide (1 ≤ (x0_1.size : Int)) = true := decide_eq_true c6
       clear c6
       have H' := Aside0.mk H
       clear H
       have p4 : 0 ≤ (0 : Int) := (by omega)
       have q4 : 0 < x0_1.size := (by have : (0 : Int) < (x0_1.size : Int) := of_decide_eq_true z26_; omega)
       have hx4 : ∀ h : 0 < x0_1.size, ((x0_1[0]'h).toNat : Int) = bt x0_1 0 := bt_at x0_1 0
       clear p4
       have qi4 : (0 < (x0_1.size : Int)) = True := eq_true (of_decide_eq_true z26_)
       replace q4 := eq_true q4
       go_wp2
       go_roundg k1
       case measure => have := HK1.out; omega
       case rel => exact ⟨(x0_1.extract 1 x0_1.size), z25_, H', ⟨by have := HK1.out; omega⟩, by repeat (first | exact Drawn0.refl _ | apply Drawn0.step)⟩
      ·rw [if_neg c6] at H
       exact absurd H (by simp)
     ·rw [if_neg c5] at H
      have c5b0 := beq_eq_false_iff_ne.mpr c5
      have c5b1 := bne_iff_ne.mpr c5
      obtain rfl := Option.some.inj H
      have p4 : 0 ≤ (0 : Int) := (by omega)
      have q4 : 0 < x0_1.size := (by have : (0 : Int) < (x0_1.size : Int) := of_decide_eq_true z26_; omega)
      have hx4 : ∀ h : 0 < x0_1.size, ((x0_1[0]'h).toNat : Int) = bt x0_1 0 := bt_at x0_1 0
      clear p4
      have qi4 : (0 < (x0_1.size : Int)) = True := eq_true (of_decide_eq_true z26_)
      replace q4 := eq_true q4
      go_wp2
      go_ret
      exact ⟨by first | rfl | (simp; done) | (simp [*]; done), by repeat (first | exact Drawn0.refl _ | apply Drawn0.step)⟩
    ·rw [if_neg c3] at H
     exact absurd H (by simp)
   ·rw [if_neg c2] at H
    have c2b0 : decide (1 < (x0_1.size : Int)) = false := decide_eq_false c2
    have c2b1 : decide (1 < x0_1.size) = false := decide_eq_false (by omega)
    clear c2
    obtain rfl := Option.some.inj H
    go_wp2
    go_ret
    exact ⟨by first | rfl | (simp; done) | (simp [*]; done), by repeat (first | exact Drawn0.refl _ | apply Drawn0.step)⟩
def metrolabref01_column.j0 : Nat → Int → Option (Int × Int)
 | 0, _ => none
 | k + 1, x10 => if x10 > 9 then (some ((wrap64 ((wrap64 (48 + x10)) - 10)) % 256, 1)) else (if x10 < 0 then (some ((wrap64 ((wrap64 (48 + x10)) + 10)) % 256, 1)) else (some ((wrap64 (48 + x10)) % 256, 0)))
def metrolabref01_column.f (k : Nat) (a0 : Int) (a1 : Int) (a2 : Int) (a3 : Bool) : Option (Int × Int) := if a3 = true then (metrolabref01_column.j0 k (wrap64 ((((a0 - 48) % 256) + ((a1 - 48) % 256)) + a2))) else (metrolabref01_column.j0 k (wrap64 ((((a0 - 48) % 256) - ((a1 - 48) % 256)) - a2)))
set_option maxHeartbeats 8000000 in
set_option maxRecDepth 100000 in
theorem metrolabref01_column.calls (k : Nat) (a0 : Int) (a1 : Int) (a2 : Int) (a3 : Bool) (r1 : Int) (r2 : Int) (w : World) (h : metrolabref01_column.f k a0 a1 a2 a3 = some (r1, r2)) :
  Calls Tryz.prog 147 #[.int .u8 a0, .int .u8 a1, .int .i64 a2, .bool a3] w fun e w' => e = .returned (.tuple #[.int .u8 r1, .int .i64 r2]) ∧ Drawn0 w w' := by
 have H : (if a3 = true then (metrolabref01_column.j0 k (wrap64 ((((a0 - 48) % 256) + ((a1 - 48) % 256)) + a2))) else (metrolabref01_column.j0 k (wrap64 ((((a0 - 48) % 256) - ((a1 - 48) % 256)) - a2)))) = some (r1, r2) := h
 clear h
 have HC5 := Aside0.mk H
 clear H
 go_enter Tryz.func147, Tryz.ntmps147
 go_upto_if 20 with (fail)
 go_cut [10] (fun v10 wc => ∃ (kq : Nat) (x10_4 : Int), v10 = .int .i64 x10_4 ∧ Aside0 (metrolabref01_column.j0 kq x10_4 = some (r1, r2)) ∧ Aside0 (kq ≤ k) ∧ Drawn0 w wc)
 case first =>
  have H := HC5.out
  clear HC5
  by_cases c6 : a3 = true
  ·subst c6
   rw [if_pos rfl] at H
   have H' := Aside0.mk H
   clear H
   go_wp2
   go_meet
   case rel => exact ⟨_, (wrap64 ((((a0 - 48) % 256) + ((a1 - 48) % 256)) + a2)), z25_, H', ⟨by first | omega | exact Nat.le_refl _⟩, by repeat (first | exact Drawn0.refl _ | apply Drawn0.step)⟩
  ·replace c6 := Bool.eq_false_iff.mpr c6
   subst c6
   rw [if_neg (show ¬ (false = true) by decide)] at H
   have H' := Aside0.mk H
   clear H
   go_wp2
   go_meet
   case rel => exact ⟨_, (wrap64 ((((a0 - 48) % 256) - ((a1 - 48) % 256)) - a2)), z25_, H', ⟨by first | omega | exact Nat.le_refl _⟩, by repeat (first | exact Drawn0.refl _ | apply Drawn0.step)⟩
 case rest =>
  clear HC5
  try clear c1
  try clear p2
  try clear c6
  try clear p6
  obtain ⟨kq, x10_4, rfl, HA, HJ4, ⟨mc4, rfl⟩⟩ := hcut
  cases kq with
  | zero => exact absurd HA.out (by simp [metrolabref01_column.j0])
  | succ kj4 =>
   have H := HA.out
   clear HA
   simp only [metrolabref01_column.j0] at H
   by_cases c7 : x10_4 > 9
   ·rw [if_pos c7] at H
    have c7b0 : decide (9 < x10_4) = true := decide_eq_true c7
    clear c7
    simp only [Option.some.injEq, Prod.mk.injEq] at H
    obtain ⟨rfl, rfl⟩ := H
    go_wp2
    go_ret2
    exact ⟨by first | rfl | (simp; done) | (simp [*]; done), by repeat (first | exact Drawn0.refl _ | apply Drawn0.step)⟩
   ·rw [if_neg c7] at H
    have c7b0 : decide (9 < x10_4) = false := decide_eq_false c7
    clear c7
    by_cases c8 : x10_4 < 0
    ·rw [if_pos c8] at H
     have c8b0 : decide (x10_4 < 0) = true := decide_eq_true c8
     clear c8
     simp only [Option.some.injEq, Prod.mk.injEq] at H
     obtain ⟨rfl, rfl⟩ := H
     go_wp2
     go_ret2
     exact ⟨by first | rfl | (simp; done) | (simp [*]; done), by repeat (first | exact Drawn0.refl _ | apply Drawn0.step)⟩
    ·rw [if_neg c8] at H
     have c8b0 : decide (x10_4 < 0) = false := decide_eq_false c8
     clear c8
     simp only [Option.some.injEq, Prod.mk.injEq] at H
     obtain ⟨rfl, rfl⟩ := H
     go_wp2
     go_ret2
     exact ⟨by first | rfl | (simp; done) | (simp [*]; done), by repeat (first | exact Drawn0.refl _ | apply Drawn0.step)⟩
def metrolabref01_paper.l0 : Nat → ByteArray → ByteArray → Bool → List Int → Int → Int → Option (ByteArray)
 | 0, _, _, _, _, _, _ => none
 | k + 1, x0, x1, x2, x8, x9, x10 => if x10 ≥ 0 then (if 0 ≤ x10 then (if x10 < (x0.size : Int) then (if x10 < (x1.size : Int) then ((metrolabref01_column.f k (bt x0 x10) (bt x1 x10) x9 x2).bind fun bt124 => (if x10 < (x8.length : Int) then (metrolabref01_paper.l0 k x0 x1 x2 (x8.set (x10 : Int).toNat bt124.1) bt124.2 (wrap64 (x10 - 1))) else (none))) else (none)) else (none)) else (none)) else ((metrolabref01_bare.f k (strOfNums x8)).bind fun t127 => (some t127))
def metrolabref01_paper.f (k : Nat) (a0 : ByteArray) (a1 : ByteArray) (a2 : Bool) : Option (ByteArray) := (metrolabref01_wide.f a0 (wrap64 ((mx (a0.size : Int) (a1.size : Int)) + 1))).bind fun t119 => ((metrolabref01_wide.f a1 (wrap64 ((mx (a0.size : Int) (a1.size : Int)) + 1))).bind fun t120 => (if 0 ≤ (wrap64 ((mx (a0.size : Int) (a1.size : Int)) + 1)) then (if (wrap64 ((mx (a0.size : Int) (a1.size : Int)) + 1) : Int).toNat ≤ 281474976710656 then (metrolabref01_paper.l0 k t119 t120 a2 (List.replicate (wrap64 ((mx (a0.size : Int) (a1.size : Int)) + 1) : Int).toNat 0) 0 (wrap64 ((wrap64 ((mx (a0.size : Int) (a1.size : Int)) + 1)) - 1))) else (none)) else (none)))
def metrolabref01_paper.T8 : Bool × List (List Nat × List Nat) := (true, [([], []), ([], []), ([], []), ([], []), ([2, 3], [2, 3]), ([], []), ([], []), ([5, 6], [5, 6]), ([], []), ([], []), ([4, 7, 8, 9], [4, 7, 8, 9]), ([10], [10]), ([11], [11]), ([11], [11]), ([0, 1, 0, 1, 2, 3, 4, 5, 6, 7, 8, 9, 10, 11, 12], [0, 1]), ([14, 12, 10, 0, 1, 2, 3, 4, 5, 6, 7, 8, 9, 10, 11, 12], [12, 14]), ([13, 15, 0, 1, 2, 3, 4, 5, 6, 7, 8, 9, 10, 11, 12, 13, 14, 15], [8, 13])])
def metrolabref01_paper.B8 : List Nat := [0, 0, 0, 0, 12, 0, 0, 96, 0, 0, 1020, 2044, 4092, 4092, 8191, 24575, 65535]
theorem metrolabref01_paper.tab8 : rtab .any (opsOf Tryz.f117 8) = metrolabref01_paper.T8 := by kernel_rfl
theorem metrolabref01_paper.bits8 : waitsOk metrolabref01_paper.T8.2 metrolabref01_paper.B8 = true := by kernel_rfl
set_option maxHeartbeats 8000000 in
set_option maxRecDepth 100000 in
theorem metrolabref01_paper.calls (k : Nat) (a0 : ByteArray) (a1 : ByteArray) (a2 : Bool) (r : ByteArray) (w : World) (h : metrolabref01_paper.f k a0 a1 a2 = some r) :
  Calls Tryz.prog 117 #[.string a0, .string a1, .bool a2] w fun e w' => e = .returned (.string r) ∧ Below w.heap.size w w' := by
 have HB := Aside0.mk (Below.refl w.heap.size w)
 have H : ((metrolabref01_wide.f a0 (wrap64 ((mx (a0.size : Int) (a1.size : Int)) + 1))).bind fun t119 => ((metrolabref01_wide.f a1 (wrap64 ((mx (a0.size : Int) (a1.size : Int)) + 1))).bind fun t120 => (if 0 ≤ (wrap64 ((mx (a0.size : Int) (a1.size : Int)) + 1)) then (if (wrap64 ((mx (a0.size : Int) (a1.size : Int)) + 1) : Int).toNat ≤ 281474976710656 then (metrolabref01_paper.l0 k t119 t120 a2 (List.replicate (wrap64 ((mx (a0.size : Int) (a1.size : Int)) + 1) : Int).toNat 0) 0 (wrap64 ((wrap64 ((mx (a0.size : Int) (a1.size : Int)) + 1)) - 1))) else (none)) else (none)))) = some r := h
 clear h
 obtain ⟨ji4, hji4⟩ : ∃ j_ : Int, (mx (a0.size : Int) (a1.size : Int)) = j_ := ⟨_, rfl⟩
 replace H : ((metrolabref01_wide.f a0 (wrap64 ((ji4) + 1))).bind fun t119 => ((metrolabref01_wide.f a1 (wrap64 ((ji4) + 1))).bind fun t120 => (if 0 ≤ (wrap64 ((ji4) + 1)) then (if (wrap64 ((ji4) + 1) : Int).toNat ≤ 281474976710656 then (metrolabref01_paper.l0 k t119 t120 a2 (List.replicate (wrap64 ((ji4) + 1) : Int).toNat 0) 0 (wrap64 ((wrap64 ((ji4) + 1)) - 1))) else (none)) else (none)))) = some r := by first | (rw [hji4] at H; exact H) | (simp only [hji4] at H ⊢; exact H)
 (try (have hji4l : 0 ≤ ji4 := by (rw [← hji4]; unfold mx; (repeat' split) <;> omega)))
 (try (have hji4m : 0 ≤ ji4 := by omega))
 have hji4_ : (if (a0.size : Int) < (a1.size : Int) then (a1.size : Int) else (a0.size : Int)) = ji4 := hji4
 have hji4n : (if a0.size < a1.size then (a1.size : Int) else (a0.size : Int)) = ji4 := by rw [← hji4_]; simp only [Int.ofNat_lt]
 obtain ⟨t119, A5, H⟩ := bindA H
 obtain ⟨t120, A6, H⟩ := bindA H
 obtain ⟨ji7, hji7⟩ : ∃ j_ : Int, (wrap64 ((ji4) + 1)) = j_ := ⟨_, rfl⟩
 replace H : (if 0 ≤ (ji7) then (if (ji7 : Int).toNat ≤ 281474976710656 then (metrolabref01_paper.l0 k t119 t120 a2 (List.replicate (ji7 : Int).toNat 0) 0 (wrap64 ((ji7) - 1))) else (none)) else (none)) = some r := by first | (rw [hji7] at H; exact H) | (simp only [hji7] at H ⊢; exact H)
 (try rw [hji7] at A5)
 (try rw [hji7] at A6)
 have hji7w : (IntKind.i64.wrap ((ji4) + 1)) = ji7 := (i64_w _).trans hji7
 by_cases c8 : 0 ≤ (ji7)
 ·rw [if_pos c8] at H
  have c8b0 := eq_true c8
  have c8b1 : decide (0 ≤ (ji7)) = true := decide_eq_true c8
  clear c8
  by_cases c9 : (ji7 : Int).toNat ≤ 281474976710656
  ·rw [if_pos c9] at H
   have c9b0 := eq_true c9
   have c9b1 : decide ((ji7 : Int).toNat ≤ 281474976710656) = true := decide_eq_true c9
   clear c9
   obtain ⟨y121, hy121⟩ : ∃ y_ : List Int, y_ = (List.replicate (ji7 : Int).toNat 0) := ⟨_, rfl⟩
   replace H : (metrolabref01_paper.l0 k t119 t120 a2 y121 0 (wrap64 ((ji7) - 1))) = some r := by first | (rw [hy121]; with_reducible exact H) | (have H2_ := (Option.bind_some _ _).symm.trans H; rw [hy121]; with_reducible exact H2_) | (have H2_ := (Option.bind_some _ _).symm.trans H; with_reducible exact H2_) | with_reducible exact H | (rw [hy121]; exact H) | exact H
   have Ny121 := Aside0.mk hy121
   clear hy121
   have H' := Aside0.mk H
   clear H
   go_enter Tryz.func117, Tryz.ntmps117
   go_wp2_with (first | ((with_reducible refine gate_callee (f := 146) rfl ?_); refine goesL_ (some 19) rfl rfl Tryz.func146 (by kernel_rfl) rfl #[.string a0, .int .i64 ji7] rfl (by (try simp only [List.map_toArray, List.map_cons, List.map_nil]); first | done | (simp only [hji7]; rfl) | rfl | (simp only [List.length_drop, List.length_take]; rfl)) ?_; (with_reducible refine (metrolabref01_wide.calls a0 ji7 t119 _ A5.out).mono ?_); rintro e w10 ⟨rfl, hb⟩; refine ⟨_, rfl, ?_⟩; replace HB := Aside0.mk (below_step z10_ hb); clear hb) | ((with_reducible refine gate_callee (f := 146) rfl ?_); refine goesL_ (some 22) rfl rfl Tryz.func146 (by kernel_rfl) rfl #[.string a1, .int .i64 ji7] rfl (by (try simp only [List.map_toArray, List.map_cons, List.map_nil]); first | done | (simp only [hji7]; rfl) | rfl | (simp only [List.length_drop, List.length_take]; rfl)) ?_; (with_reducible refine (metrolabref01_wide.calls a1 ji7 t120 _ A6.out).mono ?_); rintro e w11 ⟨rfl, hb⟩; refine ⟨_, rfl, ?_⟩; replace HB := Aside0.mk (below_step z10_ hb); clear hb) | ((with_reducible refine gate_dst (N := 24) rfl ?_); refine Kd.R_make (Kd.int .u8) _ 5 rfl (N := 24) rfl 161 _ _ rfl ji7 rfl rfl Tryz.underlying161 (.int .u8 0) 1 info5 rfl (by decide) (by omega) 0 (ok := fun _ => True) (okp := fun _ => True) rfl (fun _ hk => hk) trivial (of_decide_eq_true z26_) (Nat.le_trans (Nat.mul_le_mul_right _ (of_decide_eq_true z26_ : ji7.toNat ≤ 281474976710656)) (by omega)) (Below.refl _ _) (Nat.le_refl _) ?_; intro v122 w12 ho13 hb hg_ hnew_; clear hg_ hnew_; (first | rw [← Ny121.out] at ho13 | (simp only [Int.reduceToNat] at ho13; rw [← Ny121.out] at ho13)); have n0_ := Aside0.mk (Kd.R_lower ho13 (below_size z10_)); have n1_ := Aside0.mk (below_step z10_ hb); clear HB; have HO123 := n0_; have HB := n1_; clear n0_ n1_; clear hb ho13))
   go_loopg [9, 10] k (fun kq v9 v10 w' => ∃ (x8_1 : List Int) (x9_1 : Int) (x10_1 : Int), v9 = .int .i64 x9_1 ∧ v10 = .int .i64 x10_1 ∧ Aside0 (metrolabref01_paper.l0 kq t119 t120 a2 x8_1 x9_1 x10_1 = some r) ∧ Aside0 (kq ≤ k) ∧ Aside0 (Kd.R (Kd.int .u8) 5 w' w.heap.size (fun _ => True) v122 x8_1) ∧ Aside0 (Below w.heap.size w w'))
   case atStart => exact ⟨(y121), (0), (wrap64 ((ji7) - 1)), z25_, (by first | rfl | (simp; done) | (simp only [← hji7] <;> (first | rfl | simp)) | (simp [*]; done)), H', ⟨Nat.le_refl _⟩, ⟨by (with_reducible repeat (first | apply Kd.R_alloc | apply Kd.R_drewN | apply Kd.R_drew)); first | exact HO123.out | (simp only [w64_m256]; exact HO123.out)⟩, ⟨by repeat (first | (with_reducible first | exact HB.out | apply below_alloc | apply pw_below_drewN | apply below_drew1) | exact HB.out)⟩⟩
   case round =>
    clear H'
    try clear c1
    try clear p2
    try clear p6
    try clear c8
    try clear c8b0
    try clear c8b1
    try clear c9
    try clear c9b0
    try clear c9b1
    try clear c11
    obtain ⟨x8_1, x9_1, x10_1, rfl, rfl, HA, HK1, HO_8, HB⟩ := hrel
    cases gk with
    | zero => exact absurd HA.out (by simp [metrolabref01_paper.l0])
    | succ k1 =>
     have H := HA.out
     clear HA
     simp only [metrolabref01_paper.l0] at H
     by_cases c14 : x10_1 ≥ 0
     ·rw [if_pos c14] at H
      have c14b0 : decide (0 ≤ x10_1) = true := decide_eq_true c14
      clear c14
      by_cases c15 : 0 ≤ x10_1
      ·rw [if_pos c15] at H
       have c15b0 : decide (0 ≤ x10_1) = true := decide_eq_true c15
       clear c15
       by_cases c16 : x10_1 < (t119.size : Int)
       ·rw [if_pos c16] at H
        have c16b0 : decide (x10_1 < (t119.size : Int)) = true := decide_eq_true c16
        clear c16
        by_cases c18 : x10_1 < (t120.size : Int)
        ·rw [if_pos c18] at H
         have c18b0 : decide (x10_1 < (t120.size : Int)) = true := decide_eq_true c18
         clear c18
         obtain ⟨⟨t124, t125⟩, A20, H⟩ := bindA H
         dsimp only at H
         by_cases c21 : x10_1 < (x8_1.length : Int)
         ·rw [if_pos c21] at H
          have c21b0 : decide (x10_1 < (x8_1.length : Int)) = true := decide_eq_true c21
          clear c21
          obtain ⟨y126, hy126⟩ : ∃ y_ : List Int, y_ = (x8_1.set (x10_1 : Int).toNat t124) := ⟨_, rfl⟩
          replace H : (metrolabref01_paper.l0 k1 t119 t120 a2 y126 t125 (wrap64 (x10_1 - 1))) = some r := by first | (rw [hy126]; with_reducible exact H) | (have H2_ := (Option.bind_some _ _).symm.trans H; rw [hy126]; with_reducible exact H2_) | (have H2_ := (Option.bind_some _ _).symm.trans H; with_reducible exact H2_) | with_reducible exact H | (rw [hy126]; exact H) | exact H
          have Ny126 := Aside0.mk hy126
          clear hy126
          have H' := Aside0.mk H
          clear H
          try go_wp2
          have n0_ := Aside0.mk (Kd.R_drew HO_8.out)
          have n1_ := Aside0.mk (below_drew1 HB.out)
          clear HO_8
          clear HB
          have HO_8 := n0_
          have HB := n1_
          clear n0_ n1_
          have p17 : 0 ≤ (x10_1 : Int) := of_decide_eq_true z26_
          have q17 : x10_1 < (t119.size : Int) := of_decide_eq_true z26_
          have hx17 := bt_at t119 x10_1
          replace p17 := eq_true p17
          replace q17 := eq_true q17
          have p19 : 0 ≤ (x10_1 : Int) := of_decide_eq_true z26_
          have q19 : x10_1 < (t120.size : Int) := of_decide_eq_true z26_
          have hx19 := bt_at t120 x10_1
          replace p19 := eq_true p19
          replace q19 := eq_true q19
          refine start_ (n := 17) (S := fun w' => True) (ds := [15]) #[false, false, false, false, false, false, false, false, false, false, false, false, false, false, false, false, false] (by kernel_rfl) rfl rfl trivial (fun hHeld => ?_); refine with_tabW metrolabref01_paper.tab8 metrolabref01_paper.bits8 (fun HT_ HW_ => ?_)
          generalize wr.drew = w23 at HO_8 HB hHeld ⊢
          refine pu_ (i := 0) (N := some 32) #[true, false, false, false, false, false, false, false, false, false, false, false, false, false, false, false, false] HT_.out ?_
          refine pu_ (i := 1) (N := some 33) #[true, true, false, false, false, false, false, false, false, false, false, false, false, false, false, false, false] HT_.out ?_
          refine pu_ (i := 2) (N := some 34) #[true, true, true, false, false, false, false, false, false, false, false, false, false, false, false, false, false] HT_.out ?_
          refine pu_ (i := 3) (N := some 35) #[true, true, true, true, false, false, false, false, false, false, false, false, false, false, false, false, false] HT_.out ?_
          refine pu_ (i := 5) (N := some 37) #[true, true, true, true, false, true, false, false, false, false, false, false, false, false, false, false, false] HT_.out ?_
          refine pu_ (i := 6) (N := some 38) #[true, true, true, true, false, true, true, false, false, false, false, false, false, false, false, false, false] HT_.out ?_
          refine pu_ (i := 8) (N := some 40) #[true, true, true, true, false, true, true, false, true, false, false, false, false, false, false, false, false] HT_.out ?_
          refine pu_ (i := 9) (N := some 41) #[true, true, true, true, false, true, true, false, true, true, false, false, false, false, false, false, false] HT_.out ?_
          refine take_ (i := 4) (N := some 36) (v := ?_) (a' := ?_) #[true, true, true, true, true, true, true, false, true, true, false, false, false, false, false, false, false] rfl rfl (take_ofW HT_.out HW_.out (by kernel_rfl)) (fun _ _ _ h => h) (Or.inl ⟨by rfl, ?_⟩) hHeld ?_ ?_
          rotate_left
          ·intro w' _
           go_simp
           with_reducible rfl
          rotate_left
          ·simp only [Act.put, List.setIfInBounds_toArray, List.set_cons_zero, List.set_cons_succ, i64_w, i32_w]
           rfl
          refine take_ (i := 7) (N := some 39) (v := ?_) (a' := ?_) #[true, true, true, true, true, true, true, true, true, true, false, false, false, false, false, false, false] rfl rfl (take_ofW HT_.out HW_.out (by kernel_rfl)) (fun _ _ _ h => h) (Or.inl ⟨by rfl, ?_⟩) hHeld ?_ ?_
          rotate_left
          ·intro w' _
           go_simp
           with_reducible rfl
          rotate_left
          ·simp only [Act.put, List.setIfInBounds_toArray, List.set_cons_zero, List.set_cons_succ, i64_w, i32_w]
           rfl
          refine one_ (i := 10) (N := some 42) #[true, true, true, true, true, true, true, true, true, true, true, false, false, false, false, false, false] rfl rfl (one_of HT_.out (by kernel_rfl)) (by decide) (fun K hK => ?_)
          refine goes_ Tryz.func147 (by kernel_rfl) rfl #[.int .u8 (bt t119 x10_1), .int .u8 (bt t120 x10_1), .int .i64 x9_1, .bool a2] (by rfl) rfl rfl z9_ ?_
          with_reducible refine (metrolabref01_column.calls k1 (bt t119 x10_1) (bt t120 x10_1) x9_1 a2 t124 t125 _ A20.out).mono ?_
          rintro e w' ⟨rfl, ⟨nd, rfl⟩⟩
          refine ⟨_, rfl, ?_⟩
          have p22 : 0 ≤ (x10_1 : Int) := of_decide_eq_true z26_
          have q22 : (x10_1 : Int) < ((x8_1.length : Int) : Int) := of_decide_eq_true z26_
          obtain ⟨go22, co22, eo22, gb22, gl22, cl22, HG22⟩ := Kd.R_form HO_8.out (by omega)
          (first | cases eo22 | (injection eo22 with ea_ en_ ec_; (first | subst ea_ | (injection ea_ with ea_; subst ea_)); subst ec_; clear en_))
          have GB22 := Aside0.mk gb22
          have GG22 := Aside0.mk HG22
          clear gb22 gl22 HG22
          obtain ⟨hx22_0, hf22_0⟩ := Kd.R_celln 0 HO_8.out (x10_1 : Int) p22 q22
          replace p22 := eq_true p22
          replace q22 := eq_true q22
          have HP24 := Kd.R_putn HO_8.out (x10_1 : Int) t124
          rw [← Ny126.out] at HP24
          have HQ24 := Aside0.mk HP24
          clear HP24
          refine hK.out _ _ trivial (fun hHeld => ?_)
          clear hK K
          refine norm_ (a' := ?_) ?_ ?_
          rotate_left
          ·show Act.put _ (some 42) _ = _
           simp only [Act.put, List.setIfInBounds_toArray, List.set_cons_zero, List.set_cons_succ, i64_w, i32_w]
           rfl
          refine pu_ (i := 11) (N := some 31) #[true, true, true, true, true, true, true, true, true, true, true, true, false, false, false, false, false] HT_.out ?_
          refine pu_ (i := 12) (N := some 43) #[true, true, true, true, true, true, true, true, true, true, true, true, true, false, false, false, false] HT_.out ?_
          refine pu_ (i := 13) (N := some 44) #[true, true, true, true, true, true, true, true, true, true, true, true, true, true, false, false, false] HT_.out ?_
          refine pu_ (i := 14) (N := some 45) #[true, true, true, true, true, true, true, true, true, true, true, true, true, true, true, false, false] HT_.out ?_
          refine last_ (i := 15) (N := none) #[true, true, true, true, true, true, true, true, true, true, true, true, true, true, true, true, false] rfl rfl (one_of HT_.out (by kernel_rfl)) (by decide) (fun K hK => ?_)
          refine skip_ (w1 := ?_) (by rfl) rfl ?_ ?_
          rotate_left
          ·go_simp
           rfl
          refine hK.out _ _ ?_
          clear hK K
          refine pu_ (i := 16) (N := some 9) #[true, true, true, true, true, true, true, true, true, true, true, true, true, true, true, true, true] HT_.out ?_
          refine done_ (done_of HT_.out (by kernel_rfl)) ?_
          try go_wp2
          go_roundg k1
          case measure => have := HK1.out; omega
          case rel => exact ⟨(y126), (t125), (wrap64 (x10_1 - 1)), z25_, z25_, H', ⟨by have := HK1.out; omega⟩, ⟨by (with_reducible repeat (first | apply Kd.R_alloc | apply Kd.R_drewN | apply Kd.R_drew)); first | exact HQ24.out | (simp only [w64_m256]; exact HQ24.out)⟩, ⟨by repeat (first | (with_reducible first | exact HB.out | apply below_alloc | apply pw_below_drewN | apply below_drew1 | refine Go.Proofs.YtkdpcgmnkifbbaaGreatDoorW.PrintWords.below_set ?_ GB22.out) | exact HB.out)⟩⟩
         ·rw [if_neg c21] at H
          exact absurd H (by simp)
        ·rw [if_neg c18] at H
         exact absurd H (by simp)
       ·rw [if_neg c16] at H
        exact absurd H (by simp)
      ·rw [if_neg c15] at H
       exact absurd H (by simp)
     ·rw [if_neg c14] at H
      have c14b0 : decide (0 ≤ x10_1) = false := decide_eq_false c14
      clear c14
      obtain ⟨t127, A25, H⟩ := bindA H
      obtain rfl := Option.some.inj H
      have hcv26 := own_string (P := Tryz.prog) Tryz.underlying161 Tryz.underlying5 Tryz.underlying9 (Kd.own_of_R HO_8.out)
      go_wp2_with (first | (refine gz (f := 141) rfl (some 48) rfl Tryz.func141 (metrolabref01_bare.calls k1 (strOfNums x8_1) t127 _ A25.out) ?_; rintro w' ⟨nd, rfl⟩))
      go_ret
      exact ⟨by first | rfl | (simp [errW_none, errW_some] <;> rfl) | (simp only [← hji4, ← hji7]; first | rfl | (simp [errW_none, errW_some] <;> rfl)) | (simp [*, errW_none, errW_some] <;> rfl), z10_⟩
  ·rw [if_neg c9] at H
   exact absurd H (by simp)
 ·rw [if_neg c8] at H
  exact absurd H (by simp)
def metrolabref01_less.f (a0 : ByteArray) (a1 : ByteArray) : Option (Bool) := if (a0.size : Int) < (a1.size : Int) then (some true) else (if (a0.size : Int) = (a1.size : Int) then (some (Op.bytesLess a0.toList a1.toList)) else (some false))
set_option maxHeartbeats 8000000 in
set_option maxRecDepth 100000 in
theorem metrolabref01_less.calls (a0 : ByteArray) (a1 : ByteArray) (r : Bool) (w : World) (h : metrolabref01_less.f a0 a1 = some r) :
  Calls Tryz.prog 118 #[.string a0, .string a1] w fun e w' => e = .returned (.bool r) ∧ Drawn0 w w' := by
 have H : (if (a0.size : Int) < (a1.size : Int) then (some true) else (if (a0.size : Int) = (a1.size : Int) then (some (Op.bytesLess a0.toList a1.toList)) else (some false))) = some r := h
 clear h
 by_cases c3 : (a0.size : Int) < (a1.size : Int)
 ·rw [if_pos c3] at H
  have c3b0 : decide ((a0.size : Int) < (a1.size : Int)) = true := decide_eq_true c3
  have c3b1 : decide (a0.size < a1.size) = true := decide_eq_true (Int.ofNat_lt.mp c3)
  clear c3
  obtain rfl := Option.some.inj H
  go_enter Tryz.func118, Tryz.ntmps118
  go_wp2
  go_ret
  exact ⟨by first | rfl | (simp; done) | (simp [*]; done), by repeat (first | exact Drawn0.refl _ | apply Drawn0.step)⟩
 ·rw [if_neg c3] at H
  have c3b0 : decide ((a0.size : Int) < (a1.size : Int)) = false := decide_eq_false c3
  have c3b1 : decide (a0.size < a1.size) = false := decide_eq_false (fun h => c3 (Int.ofNat_lt.mpr h))
  clear c3
  by_cases c4 : (a0.size : Int) = (a1.size : Int)
  ·rw [if_pos c4] at H
   have c4b0 := beq_iff_eq.mpr c4
   have c4b1 := bne_eq_false_iff_eq.mpr c4
   have c4b2 : (a0.size == a1.size) = true := by first | simpa using c4 | (simp at c4 ⊢; omega)
   clear c4
   obtain rfl := Option.some.inj H
   go_enter Tryz.func118, Tryz.ntmps118
   go_wp2
   go_ret
   exact ⟨by first | rfl | (simp; done) | (simp [*]; done), by repeat (first | exact Drawn0.refl _ | apply Drawn0.step)⟩
  ·rw [if_neg c4] at H
   have c4b0 := beq_eq_false_iff_ne.mpr c4
   have c4b1 := bne_iff_ne.mpr c4
   have c4b2 : (a0.size == a1.size) = false := by first | simpa using c4 | (simp at c4 ⊢; omega)
   obtain rfl := Option.some.inj H
   go_enter Tryz.func118, Tryz.ntmps118
   go_wp2
   go_ret
   exact ⟨by first | rfl | (simp; done) | (simp [*]; done), by repeat (first | exact Drawn0.refl _ | apply Drawn0.step)⟩
end Go.Proofs.YtkdpcgmnkifbbaaGreatDoor.R
