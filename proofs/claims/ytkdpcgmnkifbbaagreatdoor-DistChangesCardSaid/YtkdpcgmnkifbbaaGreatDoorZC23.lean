/- Joined by a program of this session out of its texts, with only what the last theorem needs: Qx1 Rq. No conditions but those stated. -/
import Derived.Test.YtkdpcgmnkifbbaaGreatDoorZC08
import Derived.Test.YtkdpcgmnkifbbaaGreatDoorZC22
import Derived.Lib.IndexLaws
set_option linter.unusedVariables false
set_option linter.unusedSimpArgs false
namespace Go.Proofs.YtkdpcgmnkifbbaaGreatDoorW.PrintLast
end Go.Proofs.YtkdpcgmnkifbbaaGreatDoorW.PrintLast
namespace Go.Proofs.YtkdpcgmnkifbbaaGreatDoorW.PrintMore
end Go.Proofs.YtkdpcgmnkifbbaaGreatDoorW.PrintMore
namespace Go.Proofs.YtkdpcgmnkifbbaaGreatDoorW.PrintWords
end Go.Proofs.YtkdpcgmnkifbbaaGreatDoorW.PrintWords
section
namespace Go.Proofs.YtkdpcgmnkifbbaaGreatDoor.Q
open Go.RowKit Go.Proofs.YtkdpcgmnkifbbaaGreatDoorW.PrintWords Go.Proofs.YtkdpcgmnkifbbaaGreatDoorW.PrintLast Go.Proofs.YtkdpcgmnkifbbaaGreatDoorW.PrintMore
attribute [local go_sem] max2_int min2_int max_two min_two max_three min_three max_four min_four
set_option linter.unusedVariables false
set_option linter.unusedSimpArgs false
def ratio_joined.f (a0 : ByteArray) (a1 : ByteArray) : Option (ByteArray) := if a1.toList = ([49] : List UInt8) then (some a0) else (if a0.size + 1 ≤ 9223372036854775807 then (if (a0 ++ (⟨#[47]⟩ : ByteArray)).size + a1.size ≤ 9223372036854775807 then (some ((a0 ++ (⟨#[47]⟩ : ByteArray)) ++ a1)) else (none)) else (none))
set_option maxHeartbeats 8000000 in
set_option maxRecDepth 100000 in
theorem ratio_joined.calls (a0 : ByteArray) (a1 : ByteArray) (r : ByteArray) (w : World) (h : ratio_joined.f a0 a1 = some r) :
  Calls Tryz.prog 143 #[.string a0, .string a1] w fun e w' => e = .returned (.string r) ∧ Drawn0 w w' := by
 have H : (if a1.toList = ([49] : List UInt8) then (some a0) else (if a0.size + 1 ≤ 9223372036854775807 then (if (a0 ++ (⟨#[47]⟩ : ByteArray)).size + a1.size ≤ 9223372036854775807 then (some ((a0 ++ (⟨#[47]⟩ : ByteArray)) ++ a1)) else (none)) else (none))) = some r := h
 clear h
 by_cases c3 : a1.toList = ([49] : List UInt8)
 ·rw [if_pos c3] at H
  have c3b0 := beq_iff_eq.mpr c3
  have c3b1 := bne_eq_false_iff_eq.mpr c3
  clear c3
  obtain rfl := Option.some.inj H
  go_enter Tryz.func143, Tryz.ntmps143
  go_wp2
  go_ret
  exact ⟨by first | rfl | (simp; done) | (simp [*]; done), by repeat (first | exact Drawn0.refl _ | apply Drawn0.step)⟩
 ·rw [if_neg c3] at H
  have c3b0 := beq_eq_false_iff_ne.mpr c3
  have c3b1 := bne_iff_ne.mpr c3
  by_cases c4 : a0.size + 1 ≤ 9223372036854775807
  ·rw [if_pos c4] at H
   have c4b0 := eq_true c4
   have c4b1 : decide (a0.size + 1 ≤ 9223372036854775807) = true := decide_eq_true c4
   try have c4b2 : (9223372036854775807 < a0.size + 1) = False := eq_false (Nat.not_lt.2 c4)
   by_cases c5 : (a0 ++ (⟨#[47]⟩ : ByteArray)).size + a1.size ≤ 9223372036854775807
   ·rw [if_pos c5] at H
    have c5b0 := eq_true c5
    have c5b1 : decide ((a0 ++ (⟨#[47]⟩ : ByteArray)).size + a1.size ≤ 9223372036854775807) = true := decide_eq_true c5
    try have c5b2 : (9223372036854775807 < (a0 ++ (⟨#[47]⟩ : ByteArray)).size + a1.size) = False := eq_false (Nat.not_lt.2 c5)
    obtain rfl := Option.some.inj H
    go_enter Tryz.func143, Tryz.ntmps143
    go_wp2
    go_ret
    exact ⟨by first | rfl | (simp; done) | (simp [*]; done), by repeat (first | exact Drawn0.refl _ | apply Drawn0.step)⟩
   ·rw [if_neg c5] at H
    exact absurd H (by simp)
  ·rw [if_neg c4] at H
   exact absurd H (by simp)
def stringslite_HasPrefix.f (a0 : ByteArray) (a1 : ByteArray) : Option (Bool) := if (a0.size : Int) ≥ (a1.size : Int) then (if 0 ≤ (a1.size : Int) then (if (a1.size : Int) ≤ (a0.size : Int) then (some ((a0.extract 0 ((a1.size : Int) : Int).toNat).toList == a1.toList)) else (none)) else (none)) else (some false)
set_option maxHeartbeats 8000000 in
set_option maxRecDepth 100000 in
theorem stringslite_HasPrefix.calls (a0 : ByteArray) (a1 : ByteArray) (r : Bool) (w : World) (h : stringslite_HasPrefix.f a0 a1 = some r) :
  Calls Tryz.prog 150 #[.string a0, .string a1] w fun e w' => e = .returned (.bool r) ∧ Drawn0 w w' := by
 have H : (if (a0.size : Int) ≥ (a1.size : Int) then (if 0 ≤ (a1.size : Int) then (if (a1.size : Int) ≤ (a0.size : Int) then (some ((a0.extract 0 ((a1.size : Int) : Int).toNat).toList == a1.toList)) else (none)) else (none)) else (some false)) = some r := h
 clear h
 by_cases c3 : (a0.size : Int) ≥ (a1.size : Int)
 ·rw [if_pos c3] at H
  have c3b0 : decide ((a1.size : Int) ≤ (a0.size : Int)) = true := decide_eq_true c3
  have c3b1 : decide (a1.size ≤ a0.size) = true := decide_eq_true (Int.ofNat_le.mp c3)
  clear c3
  by_cases c4 : 0 ≤ (a1.size : Int)
  ·rw [if_pos c4] at H
   have c4b0 := eq_true c4
   have c4b1 : decide (0 ≤ (a1.size : Int)) = true := decide_eq_true c4
   clear c4
   by_cases c5 : (a1.size : Int) ≤ (a0.size : Int)
   ·rw [if_pos c5] at H
    have c5b0 := eq_true c5
    have c5b1 : decide ((a1.size : Int) ≤ (a0.size : Int)) = true := decide_eq_true c5
    clear c5
    obtain rfl := Option.some.inj H
    go_enter Tryz.func150, Tryz.ntmps150
    go_wp2
    go_ret
    exact ⟨by first | rfl | (simp; done) | (simp [*]; done), by repeat (first | exact Drawn0.refl _ | apply Drawn0.step)⟩
   ·rw [if_neg c5] at H
    exact absurd H (by simp)
  ·rw [if_neg c4] at H
   exact absurd H (by simp)
 ·rw [if_neg c3] at H
  have c3b0 : decide ((a1.size : Int) ≤ (a0.size : Int)) = false := decide_eq_false c3
  have c3b1 : decide (a1.size ≤ a0.size) = false := decide_eq_false (fun h => c3 (Int.ofNat_le.mpr h))
  clear c3
  obtain rfl := Option.some.inj H
  go_enter Tryz.func150, Tryz.ntmps150
  go_wp2
  go_ret
  exact ⟨by first | rfl | (simp; done) | (simp [*]; done), by repeat (first | exact Drawn0.refl _ | apply Drawn0.step)⟩
def strings_HasPrefix.f (a0 : ByteArray) (a1 : ByteArray) : Option (Bool) := (stringslite_HasPrefix.f a0 a1).bind fun t101 => (some t101)
set_option maxHeartbeats 8000000 in
set_option maxRecDepth 100000 in
theorem strings_HasPrefix.calls (a0 : ByteArray) (a1 : ByteArray) (r : Bool) (w : World) (h : strings_HasPrefix.f a0 a1 = some r) :
  Calls Tryz.prog 142 #[.string a0, .string a1] w fun e w' => e = .returned (.bool r) ∧ Drawn0 w w' := by
 have H : ((stringslite_HasPrefix.f a0 a1).bind fun t101 => (some t101)) = some r := h
 clear h
 obtain ⟨t101, A3, H⟩ := bindA H
 obtain rfl := Option.some.inj H
 go_enter Tryz.func142, Tryz.ntmps142
 go_wp2_with (first | (refine gz (f := 150) rfl (some 7) rfl Tryz.func150 (stringslite_HasPrefix.calls a0 a1 t101 _ A3.out) ?_; rintro w' ⟨nd, rfl⟩))
 go_ret
 exact ⟨by first | rfl | (simp; done) | (simp [*]; done), by repeat (first | exact Drawn0.refl _ | apply Drawn0.step)⟩
def stringslite_Cut.f (a0 : ByteArray) (a1 : ByteArray) : Option (ByteArray × ByteArray × Bool) := (stringslite_Index.f a0 a1).bind fun t102 => (if t102 ≥ 0 then (if 0 ≤ t102 then (if t102 ≤ (a0.size : Int) then (if 0 ≤ (wrap64 (t102 + (a1.size : Int))) then (if (wrap64 (t102 + (a1.size : Int))) ≤ (a0.size : Int) then (some (a0.extract 0 (t102 : Int).toNat, a0.extract ((wrap64 (t102 + (a1.size : Int))) : Int).toNat a0.size, true)) else (none)) else (none)) else (none)) else (none)) else (some (a0, (⟨#[]⟩ : ByteArray), false)))
set_option maxHeartbeats 8000000 in
set_option maxRecDepth 100000 in
theorem stringslite_Cut.calls (a0 : ByteArray) (a1 : ByteArray) (r1 : ByteArray) (r2 : ByteArray) (r3 : Bool) (w : World) (h : stringslite_Cut.f a0 a1 = some (r1, r2, r3)) :
  Calls Tryz.prog 144 #[.string a0, .string a1] w fun e w' => e = .returned (.tuple #[.string r1, .string r2, .bool r3]) ∧ Below w.heap.size w w' := by
 have HB := Aside0.mk (Below.refl w.heap.size w)
 have H : ((stringslite_Index.f a0 a1).bind fun t102 => (if t102 ≥ 0 then (if 0 ≤ t102 then (if t102 ≤ (a0.size : Int) then (if 0 ≤ (wrap64 (t102 + (a1.size : Int))) then (if (wrap64 (t102 + (a1.size : Int))) ≤ (a0.size : Int) then (some (a0.extract 0 (t102 : Int).toNat, a0.extract ((wrap64 (t102 + (a1.size : Int))) : Int).toNat a0.size, true)) else (none)) else (none)) else (none)) else (none)) else (some (a0, (⟨#[]⟩ : ByteArray), false)))) = some (r1, r2, r3) := h
 clear h
 obtain ⟨t102, A3, H⟩ := bindA H
 by_cases c4 : t102 ≥ 0
 ·rw [if_pos c4] at H
  have c4b0 : decide (0 ≤ t102) = true := decide_eq_true c4
  clear c4
  by_cases c5 : 0 ≤ t102
  ·rw [if_pos c5] at H
   have c5b0 := eq_true c5
   have c5b1 : decide (0 ≤ t102) = true := decide_eq_true c5
   clear c5
   by_cases c6 : t102 ≤ (a0.size : Int)
   ·rw [if_pos c6] at H
    have c6b0 := eq_true c6
    have c6b1 : decide (t102 ≤ (a0.size : Int)) = true := decide_eq_true c6
    clear c6
    obtain ⟨ji7, hji7⟩ : ∃ j_ : Int, (wrap64 (t102 + (a1.size : Int))) = j_ := ⟨_, rfl⟩
    replace H : (if 0 ≤ (ji7) then (if (ji7) ≤ (a0.size : Int) then (some (a0.extract 0 (t102 : Int).toNat, a0.extract ((ji7) : Int).toNat a0.size, true)) else (none)) else (none)) = some (r1, r2, r3) := by first | (rw [hji7] at H; exact H) | (simp only [hji7] at H ⊢; exact H)
    (try rw [hji7] at A3)
    have hji7w : (IntKind.i64.wrap (t102 + (a1.size : Int))) = ji7 := (i64_w _).trans hji7
    by_cases c8 : 0 ≤ (ji7)
    ·rw [if_pos c8] at H
     have c8b0 := eq_true c8
     have c8b1 : decide (0 ≤ (ji7)) = true := decide_eq_true c8
     clear c8
     by_cases c9 : (ji7) ≤ (a0.size : Int)
     ·rw [if_pos c9] at H
      have c9b0 := eq_true c9
      have c9b1 : decide ((ji7) ≤ (a0.size : Int)) = true := decide_eq_true c9
      clear c9
      simp only [Option.some.injEq, Prod.mk.injEq] at H
      obtain ⟨rfl, rfl, rfl⟩ := H
      go_enter Tryz.func144, Tryz.ntmps144
      go_wp2_with (first | (go_at_call 159; (with_reducible refine (stringslite_Index.calls a0 a1 t102 _ A3.out).mono ?_); rintro e w10 ⟨rfl, hb⟩; replace HB := Aside0.mk (below_step z10_ hb); clear hb))
      repeat (go_quiet (first | (go_at_call 159; (with_reducible refine (stringslite_Index.calls a0 a1 t102 _ A3.out).mono ?_); rintro e w10 ⟨rfl, hb⟩; replace HB := Aside0.mk (below_step z10_ hb); clear hb)); try go_wp2_with (first | (go_at_call 159; (with_reducible refine (stringslite_Index.calls a0 a1 t102 _ A3.out).mono ?_); rintro e w10 ⟨rfl, hb⟩; replace HB := Aside0.mk (below_step z10_ hb); clear hb)))
      go_ret3
      exact ⟨by first | rfl | (simp [errW_none, errW_some] <;> rfl) | (simp only [← hji7]; first | rfl | (simp [errW_none, errW_some] <;> rfl)) | (simp [*, errW_none, errW_some] <;> rfl), z10_⟩
     ·rw [if_neg c9] at H
      exact absurd H (by simp)
    ·rw [if_neg c8] at H
     exact absurd H (by simp)
   ·rw [if_neg c6] at H
    exact absurd H (by simp)
  ·rw [if_neg c5] at H
   exact absurd H (by simp)
 ·rw [if_neg c4] at H
  have c4b0 : decide (0 ≤ t102) = false := decide_eq_false c4
  clear c4
  simp only [Option.some.injEq, Prod.mk.injEq] at H
  obtain ⟨rfl, rfl, rfl⟩ := H
  go_enter Tryz.func144, Tryz.ntmps144
  go_wp2_with (first | (go_at_call 159; (with_reducible refine (stringslite_Index.calls a0 a1 t102 _ A3.out).mono ?_); rintro e w11 ⟨rfl, hb⟩; replace HB := Aside0.mk (below_step z10_ hb); clear hb))
  repeat (go_quiet (first | (go_at_call 159; (with_reducible refine (stringslite_Index.calls a0 a1 t102 _ A3.out).mono ?_); rintro e w11 ⟨rfl, hb⟩; replace HB := Aside0.mk (below_step z10_ hb); clear hb)); try go_wp2_with (first | (go_at_call 159; (with_reducible refine (stringslite_Index.calls a0 a1 t102 _ A3.out).mono ?_); rintro e w11 ⟨rfl, hb⟩; replace HB := Aside0.mk (below_step z10_ hb); clear hb)))
  go_ret3
  exact ⟨z24_, z10_⟩
def strings_Cut.f (a0 : ByteArray) (a1 : ByteArray) : Option (ByteArray × ByteArray × Bool) := (stringslite_Cut.f a0 a1).bind fun bt103 => (some (bt103.1, bt103.2.1, bt103.2.2))
set_option maxHeartbeats 8000000 in
set_option maxRecDepth 100000 in
theorem strings_Cut.calls (a0 : ByteArray) (a1 : ByteArray) (r1 : ByteArray) (r2 : ByteArray) (r3 : Bool) (w : World) (h : strings_Cut.f a0 a1 = some (r1, r2, r3)) :
  Calls Tryz.prog 110 #[.string a0, .string a1] w fun e w' => e = .returned (.tuple #[.string r1, .string r2, .bool r3]) ∧ Below w.heap.size w w' := by
 have HB := Aside0.mk (Below.refl w.heap.size w)
 have H : ((stringslite_Cut.f a0 a1).bind fun bt103 => (some (bt103.1, bt103.2.1, bt103.2.2))) = some (r1, r2, r3) := h
 clear h
 obtain ⟨⟨t103, t104, t105⟩, A3, H⟩ := bindA H
 dsimp only at H
 simp only [Option.some.injEq, Prod.mk.injEq] at H
 obtain ⟨rfl, rfl, rfl⟩ := H
 go_enter Tryz.func110, Tryz.ntmps110
 go_wp2_with (first | (refine gy (f := 144) rfl (some 9) rfl Tryz.func144 (stringslite_Cut.calls a0 a1 t103 t104 t105 _ A3.out) z10_ ?_; clear HB; intro w4 HB))
 go_ret3
 exact ⟨z24_, z10_⟩
def ratio_cut.f (a0 : ByteArray) : Option (ByteArray × ByteArray × Bool) := (strings_Cut.f a0 (⟨#[47]⟩ : ByteArray)).bind fun bt106 => (if bt106.2.2 = true then (some (bt106.1, bt106.2.1, bt106.2.2)) else (some (bt106.1, (⟨#[49]⟩ : ByteArray), bt106.2.2)))
set_option maxHeartbeats 8000000 in
set_option maxRecDepth 100000 in
theorem ratio_cut.calls (a0 : ByteArray) (r1 : ByteArray) (r2 : ByteArray) (r3 : Bool) (w : World) (h : ratio_cut.f a0 = some (r1, r2, r3)) :
  Calls Tryz.prog 68 #[.string a0] w fun e w' => e = .returned (.tuple #[.string r1, .string r2, .bool r3]) ∧ Below w.heap.size w w' := by
 have HB := Aside0.mk (Below.refl w.heap.size w)
 have H : ((strings_Cut.f a0 (⟨#[47]⟩ : ByteArray)).bind fun bt106 => (if bt106.2.2 = true then (some (bt106.1, bt106.2.1, bt106.2.2)) else (some (bt106.1, (⟨#[49]⟩ : ByteArray), bt106.2.2)))) = some (r1, r2, r3) := h
 clear h
 obtain ⟨⟨t106, t107, t108⟩, A2, H⟩ := bindA H
 dsimp only at H
 by_cases c3 : t108 = true
 ·subst c3
  rw [if_pos rfl] at H
  simp only [Option.some.injEq, Prod.mk.injEq] at H
  obtain ⟨rfl, rfl, rfl⟩ := H
  go_enter Tryz.func68, Tryz.ntmps68
  go_wp2_with (first | (refine gy (f := 110) rfl (some 10) rfl Tryz.func110 (strings_Cut.calls a0 (⟨#[47]⟩ : ByteArray) t106 t107 true _ A2.out) z10_ ?_; clear HB; intro w4 HB))
  go_ret3
  exact ⟨z24_, z10_⟩
 ·replace c3 := Bool.eq_false_iff.mpr c3
  subst c3
  rw [if_neg (show ¬ (false = true) by decide)] at H
  simp only [Option.some.injEq, Prod.mk.injEq] at H
  obtain ⟨rfl, rfl, rfl⟩ := H
  go_enter Tryz.func68, Tryz.ntmps68
  go_wp2_with (first | (refine gy (f := 110) rfl (some 10) rfl Tryz.func110 (strings_Cut.calls a0 (⟨#[47]⟩ : ByteArray) t106 t107 false _ A2.out) z10_ ?_; clear HB; intro w5 HB))
  go_ret3
  exact ⟨z24_, z10_⟩
mutual
def ratio_Check.j0 : Nat → ByteArray → ByteArray → Bool → Int → Int → Bool → Option (Int)
 | 0, _, _, _, _, _, _ => none
 | k + 1, x3, x4, x5, x6, x7, x20 => if x20 = true then (some 3) else (if x6 = 0 then (ratio_Check.j1 k x3 x4 x5 x6 x7 (x7 != 0)) else (ratio_Check.j1 k x3 x4 x5 x6 x7 true))
def ratio_Check.j1 : Nat → ByteArray → ByteArray → Bool → Int → Int → Bool → Option (Int)
 | 0, _, _, _, _, _, _ => none
 | k + 1, x3, x4, x5, x6, x7, x27 => if x27 = true then (some (mx x6 x7)) else (if x5 = true then ((whole_Compare.f x4 (⟨#[49]⟩ : ByteArray)).bind fun bt114 => ((whole_Gcd.f x3 x4).bind fun bt116 => (if bt114.2 = 0 then (if bt116.2 = 0 then (if bt114.1 ≤ 0 then (some 3) else (if bt116.1.toList = ([49] : List UInt8) then (some 0) else (some 3))) else (some 3)) else (some 3)))) else (some 0))
end
def ratio_Check.f (k : Nat) (a0 : ByteArray) : Option (Int) := (ratio_cut.f a0).bind fun bt109 => ((whole_Check.f bt109.1).bind fun t112 => ((whole_Check.f bt109.2.1).bind fun t113 => (if t112 = 3 then (ratio_Check.j0 k bt109.1 bt109.2.1 bt109.2.2 t112 t113 true) else (ratio_Check.j0 k bt109.1 bt109.2.1 bt109.2.2 t112 t113 (t113 == 3)))))
set_option maxHeartbeats 8000000 in
set_option maxRecDepth 100000 in
theorem ratio_Check.calls (k : Nat) (a0 : ByteArray) (r : Int) (w : World) (h : ratio_Check.f k a0 = some r) (HT : Aside0 (Tabs w)) :
  Calls Tryz.prog 36 #[.string a0] w fun e w' => e = .returned (.int .i64 r) ∧ Below w.heap.size w w' := by
 have HB := Aside0.mk (Below.refl w.heap.size w)
 have H : ((ratio_cut.f a0).bind fun bt109 => ((whole_Check.f bt109.1).bind fun t112 => ((whole_Check.f bt109.2.1).bind fun t113 => (if t112 = 3 then (ratio_Check.j0 k bt109.1 bt109.2.1 bt109.2.2 t112 t113 true) else (ratio_Check.j0 k bt109.1 bt109.2.1 bt109.2.2 t112 t113 (t113 == 3)))))) = some r := h
 clear h
 obtain ⟨⟨t109, t110, t111⟩, A2, H⟩ := bindA H
 dsimp only at H
 obtain ⟨t112, A3, H⟩ := bindA H
 obtain ⟨t113, A4, H⟩ := bindA H
 have HC5 := Aside0.mk H
 clear H
 go_enter Tryz.func36, Tryz.ntmps36
 go_upto_region 3 with (first | (refine gy (f := 68) rfl (some 12) rfl Tryz.func68 (ratio_cut.calls a0 t109 t110 t111 _ A2.out) z10_ ?_; clear HB; intro w6 HB) | (refine gy (f := 48) rfl (some 17) rfl Tryz.func48 (whole_Check.calls t109 t112 _ A3.out) z10_ ?_; clear HB; intro w7 HB) | (refine gy (f := 48) rfl (some 19) rfl Tryz.func48 (whole_Check.calls t110 t113 _ A4.out) z10_ ?_; clear HB; intro w8 HB))
 (try simp only [Act.put, List.setIfInBounds_toArray, List.set_cons_zero, List.set_cons_succ])
 go_cut [20] (fun v20 wc => ∃ (kq : Nat) (x20_4 : Bool), v20 = .bool x20_4 ∧ Aside0 (ratio_Check.j0 kq t109 t110 t111 t112 t113 x20_4 = some r) ∧ Aside0 (kq ≤ k) ∧ Aside0 (Below w.heap.size w wc))
 case first =>
  have H := HC5.out
  clear HC5
  by_cases c9 : t112 = 3
  ·rw [if_pos c9] at H
   have c9b0 := beq_iff_eq.mpr c9
   have c9b1 := bne_eq_false_iff_eq.mpr c9
   clear c9
   (first | rw [c9b0] | (simp only [i64_w, i32_w]; rw [c9b0]) | skip)
   have H' := Aside0.mk H
   clear H
   go_wp2
   go_meet
   case rel => exact ⟨_, (true), z25_, H', ⟨by first | omega | exact Nat.le_refl _⟩, ⟨by repeat (first | (with_reducible first | exact HB.out | apply below_alloc | apply pw_below_drewN | apply below_drew1) | exact HB.out)⟩⟩
  ·rw [if_neg c9] at H
   have c9b0 := beq_eq_false_iff_ne.mpr c9
   have c9b1 := bne_iff_ne.mpr c9
   (first | rw [c9b0] | (simp only [i64_w, i32_w]; rw [c9b0]) | skip)
   have H' := Aside0.mk H
   clear H
   go_wp2
   go_meet
   case rel => exact ⟨_, ((t113 == 3)), z25_, H', ⟨by first | omega | exact Nat.le_refl _⟩, ⟨by repeat (first | (with_reducible first | exact HB.out | apply below_alloc | apply pw_below_drewN | apply below_drew1) | exact HB.out)⟩⟩
 case rest =>
  clear HC5
  try clear p2
  try clear c3
  try clear c4
  try clear c6
  try clear c9
  try clear c9b0
  try clear c9b1
  obtain ⟨kq, x20_4, rfl, HA, HJ4, HB⟩ := hcut
  cases kq with
  | zero => exact absurd HA.out (by simp [ratio_Check.j0])
  | succ kj4 =>
   have H := HA.out
   clear HA
   simp only [ratio_Check.j0] at H
   by_cases c10 : x20_4 = true
   ·subst c10
    rw [if_pos rfl] at H
    obtain rfl := Option.some.inj H
    go_wp2
    go_ret
    exact ⟨z24_, z10_⟩
   ·replace c10 := Bool.eq_false_iff.mpr c10
    subst c10
    rw [if_neg (show ¬ (false = true) by decide)] at H
    have HC11 := Aside0.mk H
    clear H
    go_upto_region 5 with (fail)
    go_cut [27] (fun v27 wc => ∃ (kq : Nat) (x27_10 : Bool), v27 = .bool x27_10 ∧ Aside0 (ratio_Check.j1 kq t109 t110 t111 t112 t113 x27_10 = some r) ∧ Aside0 (kq ≤ kj4) ∧ Aside0 (Below w.heap.size w wc))
    case first =>
     have H := HC11.out
     clear HC11
     by_cases c12 : t112 = 0
     ·rw [if_pos c12] at H
      have c12b0 := beq_iff_eq.mpr c12
      have c12b1 := bne_eq_false_iff_eq.mpr c12
      clear c12
      (first | rw [c12b0] | (simp only [i64_w, i32_w]; rw [c12b0]) | skip)
      have H' := Aside0.mk H
      clear H
      go_wp2
      go_meet
      case rel => exact ⟨_, ((t113 != 0)), z25_, H', ⟨by have := HJ4.out; first | omega | exact Nat.le_refl _⟩, ⟨by repeat (first | (with_reducible first | exact HB.out | apply below_alloc | apply pw_below_drewN | apply below_drew1) | exact HB.out)⟩⟩
     ·rw [if_neg c12] at H
      have c12b0 := beq_eq_false_iff_ne.mpr c12
      have c12b1 := bne_iff_ne.mpr c12
      (first | rw [c12b0] | (simp only [i64_w, i32_w]; rw [c12b0]) | skip)
      have H' := Aside0.mk H
      clear H
      go_wp2
      go_meet
      case rel => exact ⟨_, (true), z25_, H', ⟨by have := HJ4.out; first | omega | exact Nat.le_refl _⟩, ⟨by repeat (first | (with_reducible first | exact HB.out | apply below_alloc | apply pw_below_drewN | apply below_drew1) | exact HB.out)⟩⟩
    case rest =>
     clear HC11
     try clear c1
     try clear p2
     try clear c3
     try clear c4
     try clear c6
     try clear c9
     try clear c9b0
     try clear c9b1
     try clear c10
     try clear c12
     try clear c12b0
     try clear c12b1
     try clear p2
     obtain ⟨kq, x27_10, rfl, HA, HJ10, HB⟩ := hcut
     cases kq with
     | zero => exact absurd HA.out (by simp [ratio_Check.j1])
     | succ kj10 =>
      have H := HA.out
      clear HA
      simp only [ratio_Check.j1] at H
      by_cases c13 : x27_10 = true
      ·subst c13
       rw [if_pos rfl] at H
       obtain ⟨ji14, hji14⟩ : ∃ j_ : Int, (mx t112 t113) = j_ := ⟨_, rfl⟩
       replace H : (some ji14) = some r := by first | (rw [hji14] at H; exact H) | (simp only [hji14] at H ⊢; exact H)
       have hji14_ : (if t112 < t113 then t113 else t112) = ji14 := hji14
       obtain rfl := Option.some.inj H
       go_wp2
       go_ret
       exact ⟨by first | rfl | (simp [errW_none, errW_some] <;> rfl) | (simp only [← hji14]; first | rfl | (simp [errW_none, errW_some] <;> rfl)) | (simp [*, errW_none, errW_some] <;> rfl), z10_⟩
      ·replace c13 := Bool.eq_false_iff.mpr c13
       subst c13
       rw [if_neg (show ¬ (false = true) by decide)] at H
       by_cases c15 : t111 = true
       ·subst c15
        rw [if_pos rfl] at H
        obtain ⟨⟨t114, t115⟩, A16, H⟩ := bindA H
        dsimp only at H
        obtain ⟨⟨t116, t117⟩, A17, H⟩ := bindA H
        dsimp only at H
        by_cases c18 : t115 = 0
        ·rw [if_pos c18] at H
         have c18b0 := beq_iff_eq.mpr c18
         have c18b1 := bne_eq_false_iff_eq.mpr c18
         clear c18
         by_cases c19 : t117 = 0
         ·rw [if_pos c19] at H
          have c19b0 := beq_iff_eq.mpr c19
          have c19b1 := bne_eq_false_iff_eq.mpr c19
          clear c19
          by_cases c20 : t114 ≤ 0
          ·rw [if_pos c20] at H
           have c20b0 : decide (t114 ≤ 0) = true := decide_eq_true c20
           clear c20
           obtain rfl := Option.some.inj H
           go_wp2_with (first | (refine gy (f := 69) rfl (some 42) rfl Tryz.func69 (whole_Compare.calls t110 (⟨#[49]⟩ : ByteArray) t114 t115 _ A16.out) z10_ ?_; clear HB; intro w21 HB) | (refine gy (f := 60) rfl (some 48) rfl Tryz.func60 (whole_Gcd.calls t109 t110 t116 t117 _ A17.out (Aside0.mk (Tabs.below HT.out z4_))) z10_ ?_; clear HB; intro w22 HB))
           go_ret
           exact ⟨z24_, z10_⟩
          ·rw [if_neg c20] at H
           have c20b0 : decide (t114 ≤ 0) = false := decide_eq_false c20
           clear c20
           by_cases c23 : t116.toList = ([49] : List UInt8)
           ·rw [if_pos c23] at H
            have c23b0 := beq_iff_eq.mpr c23
            have c23b1 := bne_eq_false_iff_eq.mpr c23
            clear c23
            obtain rfl := Option.some.inj H
            go_wp2_with (first | (refine gy (f := 69) rfl (some 42) rfl Tryz.func69 (whole_Compare.calls t110 (⟨#[49]⟩ : ByteArray) t114 t115 _ A16.out) z10_ ?_; clear HB; intro w24 HB) | (refine gy (f := 60) rfl (some 48) rfl Tryz.func60 (whole_Gcd.calls t109 t110 t116 t117 _ A17.out (Aside0.mk (Tabs.below HT.out z4_))) z10_ ?_; clear HB; intro w25 HB))
            go_ret
            exact ⟨z24_, z10_⟩
           ·rw [if_neg c23] at H
            have c23b0 := beq_eq_false_iff_ne.mpr c23
            have c23b1 := bne_iff_ne.mpr c23
            obtain rfl := Option.some.inj H
            go_wp2_with (first | (refine gy (f := 69) rfl (some 42) rfl Tryz.func69 (whole_Compare.calls t110 (⟨#[49]⟩ : ByteArray) t114 t115 _ A16.out) z10_ ?_; clear HB; intro w26 HB) | (refine gy (f := 60) rfl (some 48) rfl Tryz.func60 (whole_Gcd.calls t109 t110 t116 t117 _ A17.out (Aside0.mk (Tabs.below HT.out z4_))) z10_ ?_; clear HB; intro w27 HB))
            go_ret
            exact ⟨z24_, z10_⟩
         ·rw [if_neg c19] at H
          have c19b0 := beq_eq_false_iff_ne.mpr c19
          have c19b1 := bne_iff_ne.mpr c19
          obtain rfl := Option.some.inj H
          go_wp2_with (first | (refine gy (f := 69) rfl (some 42) rfl Tryz.func69 (whole_Compare.calls t110 (⟨#[49]⟩ : ByteArray) t114 t115 _ A16.out) z10_ ?_; clear HB; intro w28 HB) | (refine gy (f := 60) rfl (some 48) rfl Tryz.func60 (whole_Gcd.calls t109 t110 t116 t117 _ A17.out (Aside0.mk (Tabs.below HT.out z4_))) z10_ ?_; clear HB; intro w29 HB))
          go_ret
          exact ⟨z24_, z10_⟩
        ·rw [if_neg c18] at H
         have c18b0 := beq_eq_false_iff_ne.mpr c18
         have c18b1 := bne_iff_ne.mpr c18
         obtain rfl := Option.some.inj H
         go_wp2_with (first | (refine gy (f := 69) rfl (some 42) rfl Tryz.func69 (whole_Compare.calls t110 (⟨#[49]⟩ : ByteArray) t114 t115 _ A16.out) z10_ ?_; clear HB; intro w30 HB) | (refine gy (f := 60) rfl (some 48) rfl Tryz.func60 (whole_Gcd.calls t109 t110 t116 t117 _ A17.out (Aside0.mk (Tabs.below HT.out z4_))) z10_ ?_; clear HB; intro w31 HB))
         go_ret
         exact ⟨z24_, z10_⟩
       ·replace c15 := Bool.eq_false_iff.mpr c15
        subst c15
        rw [if_neg (show ¬ (false = true) by decide)] at H
        obtain rfl := Option.some.inj H
        go_wp2
        go_ret
        exact ⟨z24_, z10_⟩
def ratio_checks.l0 : Nat → List ByteArray → Int → Int → Option (Int)
 | 0, _, _, _ => none
 | k + 1, x6, x7, x8 => if x8 < x7 then (if 0 ≤ x8 then (if x8 < (x6.length : Int) then ((ratio_Check.f k (rdOf ByteArray.empty x6 x8)).bind fun t119 => (if t119 = 0 then (ratio_checks.l0 k x6 x7 (wrap64 (x8 + 1))) else (some t119))) else (none)) else (none)) else (some 0)
def ratio_checks.f (k : Nat) (l0 : List ByteArray) : Option (Int) := ratio_checks.l0 k l0 (l0.length : Int) 0
set_option maxHeartbeats 8000000 in
set_option maxRecDepth 100000 in
theorem ratio_checks.calls (k : Nat) (A0 : Option Addr) (c0 : Nat) (l0 : List ByteArray) (r : Int) (w : World) (hr0 : Kd.C Kd.string w A0 l0.length l0) (hc0 : l0.length ≤ c0) (h : ratio_checks.f k l0 = some r) (HT : Aside0 (Tabs w)) :
  Calls Tryz.prog 70 #[.slice A0 l0.length c0] w fun e w' => e = .returned (.int .i64 r) ∧ Below w.heap.size w w' := by
 have HR0 := Aside0.mk hr0
 have HC0 := Aside0.mk hc0
 clear hr0 hc0
 have HB := Aside0.mk (Below.refl w.heap.size w)
 have H : (ratio_checks.l0 k l0 (l0.length : Int) 0) = some r := h
 clear h
 have H' := Aside0.mk H
 clear H
 go_enter Tryz.func70, Tryz.ntmps70
 go_wp2
 go_loopg [8] k (fun kq v8 w' => ∃ (x8_1 : Int), v8 = .int .i64 x8_1 ∧ Aside0 (ratio_checks.l0 kq l0 (l0.length : Int) x8_1 = some r) ∧ Aside0 (kq ≤ k) ∧ Aside0 (Below w.heap.size w w'))
 case atStart => exact ⟨(0), z25_, H', ⟨Nat.le_refl _⟩, ⟨by repeat (first | (with_reducible first | exact HB.out | apply below_alloc | apply pw_below_drewN | apply below_drew1) | exact HB.out)⟩⟩
 case round =>
  clear H'
  obtain ⟨x8_1, rfl, HA, HK1, HB⟩ := hrel
  cases gk with
  | zero => exact absurd HA.out (by simp [ratio_checks.l0])
  | succ k1 =>
   have H := HA.out
   clear HA
   simp only [ratio_checks.l0] at H
   by_cases c2 : x8_1 < (l0.length : Int)
   ·rw [if_pos c2] at H
    have c2b0 : decide (x8_1 < (l0.length : Int)) = true := decide_eq_true c2
    clear c2
    by_cases c3 : 0 ≤ x8_1
    ·rw [if_pos c3] at H
     have c3b0 : decide (0 ≤ x8_1) = true := decide_eq_true c3
     clear c3
     by_cases c4 : x8_1 < (l0.length : Int)
     ·rw [if_pos c4] at H
      have c4b0 : decide (x8_1 < (l0.length : Int)) = true := decide_eq_true c4
      clear c4
      obtain ⟨t119, A5, H⟩ := bindA H
      by_cases c6 : t119 = 0
      ·rw [if_pos c6] at H
       have c6b0 := beq_iff_eq.mpr c6
       have c6b1 := bne_eq_false_iff_eq.mpr c6
       clear c6
       have H' := Aside0.mk H
       clear H
       have p118 : 0 ≤ (x8_1 : Int) := of_decide_eq_true z26_
       have q118 : x8_1 < (l0.length : Int) := of_decide_eq_true z26_
       obtain ⟨ad118, e118, hx118_0⟩ := Kd.at_string HR0.out x8_1 p118 q118
       cases e118
       replace hx118_0 := (HB.out.cell (World.block_lt_of_cell? w _ hx118_0)).trans hx118_0
       replace p118 := eq_true p118
       replace q118 := eq_true q118
       go_wp2_with (first | (refine gy (f := 36) rfl (some 13) rfl Tryz.func36 (ratio_Check.calls k1 (rdOf ByteArray.empty l0 x8_1) t119 _ A5.out (Aside0.mk (Tabs.below HT.out z4_))) z10_ ?_; clear HB; intro w7 HB))
       go_roundg k1
       case measure => have := HK1.out; omega
       case rel => exact ⟨(wrap64 (x8_1 + 1)), z25_, H', ⟨by have := HK1.out; omega⟩, ⟨by repeat (first | (with_reducible first | exact HB.out | apply below_alloc | apply pw_below_drewN | apply below_drew1) | exact HB.out)⟩⟩
      ·rw [if_neg c6] at H
       have c6b0 := beq_eq_false_iff_ne.mpr c6
       have c6b1 := bne_iff_ne.mpr c6
       obtain rfl := Option.some.inj H
       have p118 : 0 ≤ (x8_1 : Int) := of_decide_eq_true z26_
       have q118 : x8_1 < (l0.length : Int) := of_decide_eq_true z26_
       obtain ⟨ad118, e118, hx118_0⟩ := Kd.at_string HR0.out x8_1 p118 q118
       cases e118
       replace hx118_0 := (HB.out.cell (World.block_lt_of_cell? w _ hx118_0)).trans hx118_0
       replace p118 := eq_true p118
       replace q118 := eq_true q118
       go_wp2_with (first | (refine gy (f := 36) rfl (some 13) rfl Tryz.func36 (ratio_Check.calls k1 (rdOf ByteArray.empty l0 x8_1) t119 _ A5.out (Aside0.mk (Tabs.below HT.out z4_))) z10_ ?_; clear HB; intro w8 HB))
       go_ret
       exact ⟨z24_, z10_⟩
     ·rw [if_neg c4] at H
      exact absurd H (by simp)
    ·rw [if_neg c3] at H
     exact absurd H (by simp)
   ·rw [if_neg c2] at H
    have c2b0 : decide (x8_1 < (l0.length : Int)) = false := decide_eq_false c2
    clear c2
    obtain rfl := Option.some.inj H
    go_wp2
    go_ret
    exact ⟨z24_, z10_⟩
end Go.Proofs.YtkdpcgmnkifbbaaGreatDoor.Q
end
section
namespace Go.Proofs.YtkdpcgmnkifbbaaGreatDoor
open Go.RowKit Go.Proofs.YtkdpcgmnkifbbaaGreatDoorW.PrintWords Go.Proofs.YtkdpcgmnkifbbaaGreatDoorW.PrintMore
def cutL : List UInt8 → Option (List UInt8 × List UInt8)
 | [] => none
 | b :: l => if b = 47 then some ([], l) else (cutL l).map fun p => (b :: p.1, p.2)
theorem cutL_none : ∀ {l : List UInt8}, cutL l = none → Lib.indexByte l 47 = -1 ∧ 47 ∉ l
 | [], _ => ⟨rfl, by simp⟩
 | b :: l, h => by
  unfold cutL at h
  by_cases hb : b = 47
  ·rw [if_pos hb] at h; cases h
  ·rw [if_neg hb] at h
   have ih := cutL_none (l := l) (by cases hc : cutL l with
    | none => rfl
    | some p => rw [hc] at h; cases h)
   unfold Lib.indexByte
   have hb2 : (b == 47) = false := beq_eq_false_iff_ne.2 hb
   rw [hb2, ih.1]
   exact ⟨rfl, by simp [ih.2, Ne.symm hb]⟩
theorem cutL_some : ∀ {l x y : List UInt8}, cutL l = some (x, y) → Lib.indexByte l 47 = (x.length : Int) ∧ l = x ++ 47 :: y ∧ 47 ∉ x
 | [], _, _, h => by cases h
 | b :: l, x, y, h => by
  unfold cutL at h
  by_cases hb : b = 47
  ·rw [if_pos hb] at h; cases h
   subst hb
   exact ⟨rfl, rfl, by simp⟩
  ·rw [if_neg hb] at h
   cases hc : cutL l with
   | none => rw [hc] at h; cases h
   | some p =>
    rw [hc] at h
    cases h
    have ih := cutL_some (l := l) (x := p.1) (y := p.2) hc
    unfold Lib.indexByte
    have hb2 : (b == 47) = false := beq_eq_false_iff_ne.2 hb
    have hi : ((Lib.indexByte l 47) == -1) = false := by rw [beq_eq_false_iff_ne, ih.1]; omega
    rw [hb2, hi]
    simp only [Bool.false_eq_true, if_false]
    refine ⟨by rw [ih.1]; simp, by rw [List.cons_append, ← ih.2.1], by simp [ih.2.2, Ne.symm hb]⟩
theorem cutL_of {x y : List UInt8} (h : 47 ∉ x) : cutL (x ++ 47 :: y) = some (x, y) := by
 induction x with
 | nil => simp [cutL]
 | cons a t ih =>
  rw [List.mem_cons, not_or] at h
  rw [List.cons_append, cutL, if_neg (Ne.symm h.1), ih h.2]; rfl
theorem cutL_no {x : List UInt8} (h : 47 ∉ x) : cutL x = none := by
 cases hc : cutL x with
 | none => rfl
 | some p =>
  have := (cutL_some (x := p.1) (y := p.2) hc).2.1
  rw [this] at h; simp at h
def bas (l : List UInt8) : ByteArray := ⟨l.toArray⟩
theorem bas_list (l : List UInt8) : (bas l).data.toList = l := rfl
theorem bas_size (l : List UInt8) : (bas l).size = l.length := by rw [Lib.size_eq]; rfl
def cutF (a : ByteArray) : ByteArray × ByteArray × Bool := match cutL a.data.toList with
 | none => (a, ⟨#[49]⟩, false)
 | some p => (bas p.1, bas p.2, true)
theorem cut_f (a : ByteArray) (hs : a.size ≤ 4611686018427387904) : Q.ratio_cut.f a = some (cutF a) := by
 unfold Q.ratio_cut.f Q.strings_Cut.f Q.stringslite_Cut.f Q.stringslite_Index.f cutF
 rw [if_pos rfl, Option.bind_some]
 have hz : ((⟨#[47]⟩ : ByteArray).size : Int) = 1 := rfl
 rw [hz]
 cases hc : cutL a.data.toList with
 | none =>
  rw [(cutL_none hc).1, if_neg (by decide)]; rfl
 | some p =>
  obtain ⟨x, y⟩ := p
  have h := cutL_some hc
  have hl := congrArg List.length h.2.1
  rw [← Lib.size_eq, List.length_append, List.length_cons] at hl
  rw [h.1, if_pos (by omega), if_pos (by omega), if_pos (by omega), IntWalk.wrap64_in _ (by omega), if_pos (by omega), if_pos (by omega)]
  have e1 : a.extract 0 ((x.length : Int)).toNat = bas x := by
   rw [Lib.extract_eq, h.2.1, Int.toNat_natCast]; simp [bas]
  have e2 : a.extract ((x.length : Int) + 1).toNat a.size = bas y := by
   rw [Lib.extract_eq, show ((x.length : Int) + 1).toNat = x.length + 1 by omega, h.2.1, List.take_of_length_le (by simp; omega)]
   simp [bas]
  rw [e1, e2]; rfl
theorem cutF_size (a : ByteArray) : (cutF a).1.size ≤ a.size ∧ (cutF a).2.1.size ≤ a.size + 1 := by
 unfold cutF
 cases hc : cutL a.data.toList with
 | none => exact ⟨Nat.le_refl _, by show 1 ≤ a.size + 1; omega⟩
 | some p =>
  have h := cutL_some (x := p.1) (y := p.2) hc
  have hl := congrArg List.length h.2.1
  rw [← Lib.size_eq, List.length_append, List.length_cons] at hl
  simp only [bas_size]; omega
def rchk (a : ByteArray) : Int :=
 if chk (cutF a).1 = 3 ∨ chk (cutF a).2.1 = 3 then 3
 else if chk (cutF a).1 ≠ 0 ∨ chk (cutF a).2.1 ≠ 0 then 11
 else if (cutF a).2.2 = false then 0
 else if 1 < ival (cutF a).2.1 ∧ gcdv (ival (cutF a).1) (ival (cutF a).2.1) = 1 then 0 else 3
theorem chk_eleven {a : ByteArray} (h0 : chk a ≠ 0) (h3 : chk a ≠ 3) : chk a = 11 := by
 rcases chk_cases a with h | h | h
 ·exact absurd h h0
 ·exact absurd h h3
 ·exact h
theorem itx_one_list (v : Int) : ((itx v).toList = ([49] : List UInt8)) ↔ v = 1 := by
 rw [show ([49] : List UInt8) = (itx 1).toList by rw [← one_text, Lib.toList_data]]
 constructor
 ·intro h
  refine itx_inj ?_
  rw [Lib.toList_data, Lib.toList_data] at h
  rw [← Lib.mk_data (itx v), h, Lib.mk_data]
 ·rintro rfl; rfl
theorem rcheck_f (a : ByteArray) (hs : a.size ≤ 4611686018427387904) (k : Nat) : Q.ratio_Check.f (k + 2) a = some (rchk a) := by
 unfold Q.ratio_Check.f Q.whole_Check.f L.whole_Check.f rchk
 rw [cut_f a hs, Option.bind_some]
 have hz := cutF_size a
 rw [if_pos (by omega), if_pos (by omega)]
 simp only [Option.bind_some]
 generalize hx : cutF a = x at *
 obtain ⟨n, d, wr⟩ := x
 simp only at hz ⊢
 by_cases h1 : chk n = 3
 ·rw [if_pos h1, if_pos (.inl h1), Q.ratio_Check.j0, if_pos rfl]
 ·rw [if_neg h1, Q.ratio_Check.j0]
  by_cases h2 : chk d = 3
  ·rw [if_pos (beq_iff_eq.2 h2), if_pos (.inr h2)]
  ·have hA : ¬ (chk n = 3 ∨ chk d = 3) := fun h => h.elim h1 h2
   rw [if_neg (by rw [beq_iff_eq]; exact h2), if_neg hA]
   by_cases h3 : chk n = 0
   ·rw [if_pos h3]
    rw [Q.ratio_Check.j1]
    by_cases h4 : chk d = 0
    ·have hb : ((chk d != 0) = true) = False := by rw [h4]; simp
     have hB : ¬ (chk n ≠ 0 ∨ chk d ≠ 0) := fun h => h.elim (fun h => h h3) (fun h => h h4)
     rw [if_neg (by rw [hb]; exact id), if_neg hB]
     cases wr
     ·simp
     ·simp only [if_true]
      have hone : chk (⟨#[49]⟩ : ByteArray) = 0 := by rw [one_text]; exact chk_small (by decide)
      unfold Q.whole_Compare.f Q.whole_Gcd.f
      rw [if_pos ⟨by omega, by decide⟩, if_pos ⟨by omega, by omega⟩]
      simp only [Option.bind_some]
      have e1 : twoi d ⟨#[49]⟩ (cmpv (ival d) (ival ⟨#[49]⟩)) = (cmpv (ival d) 1, 0) := by
       unfold twoi; rw [if_neg (fun h => h h4), if_neg (fun h => h hone), one_text, ival_itx]
      have e2 : two n d (itx (gcdv (ival n) (ival d)), 0) = (itx (gcdv (ival n) (ival d)), 0) := by
       unfold two; rw [if_neg (fun h => h h3), if_neg (fun h => h h4)]
      rw [e1, e2]
      simp only [if_true, Bool.true_eq_false, if_false]
      by_cases h5 : 1 < ival d
      ·rw [cmpv_gt h5, if_neg (by decide)]
       by_cases h6 : gcdv (ival n) (ival d) = 1
       ·rw [if_pos ((itx_one_list _).2 h6), if_pos ⟨h5, h6⟩]
       ·rw [if_neg (fun h => h6 ((itx_one_list _).1 h)), if_neg (fun h => h6 h.2)]
      ·rw [if_pos (by rcases Int.lt_trichotomy (ival d) 1 with h | h | h
                      ·rw [cmpv_lt h]; decide
                      ·rw [cmpv_eq h]; decide
                      ·exact absurd h h5), if_neg (fun h => h5 h.1)]
    ·have h5 := chk_eleven h4 h2
     have hb : ((chk d != 0) = true) := by rw [h5]; rfl
     rw [if_pos hb, if_pos (.inr h4), h3, h5]; rfl
   ·rw [if_neg h3, Q.ratio_Check.j1, if_pos rfl, if_pos (.inl h3), chk_eleven h3 h1]
    rcases chk_cases d with h | h | h
    ·rw [h]; rfl
    ·exact absurd h h2
    ·rw [h]; rfl
end Go.Proofs.YtkdpcgmnkifbbaaGreatDoor
end
