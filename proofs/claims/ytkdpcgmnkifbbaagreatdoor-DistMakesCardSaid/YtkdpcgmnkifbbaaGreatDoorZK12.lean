/- Joined by a program of this session out of its texts, with only what the last theorem needs: Rx4 Rx5. No conditions but those stated. -/
import Derived.Test.YtkdpcgmnkifbbaaGreatDoorZK08
import Derived.Test.YtkdpcgmnkifbbaaGreatDoorZK09
import Derived.Test.YtkdpcgmnkifbbaaGreatDoorZK10
import Derived.Test.YtkdpcgmnkifbbaaGreatDoorZK11
set_option linter.unusedVariables false
set_option linter.unusedSimpArgs false
namespace Go.Proofs.YtkdpcgmnkifbbaaGreatDoorW.PrintLast
end Go.Proofs.YtkdpcgmnkifbbaaGreatDoorW.PrintLast
namespace Go.Proofs.YtkdpcgmnkifbbaaGreatDoorW.PrintMore
end Go.Proofs.YtkdpcgmnkifbbaaGreatDoorW.PrintMore
namespace Go.Proofs.YtkdpcgmnkifbbaaGreatDoorW.PrintWords
end Go.Proofs.YtkdpcgmnkifbbaaGreatDoorW.PrintWords
section
namespace Go.Proofs.YtkdpcgmnkifbbaaGreatDoor.R
open Go.RowKit Go.Proofs.YtkdpcgmnkifbbaaGreatDoorW.PrintWords Go.Proofs.YtkdpcgmnkifbbaaGreatDoorW.PrintLast Go.Proofs.YtkdpcgmnkifbbaaGreatDoorW.PrintMore
attribute [local go_sem] max2_int min2_int max_two min_two max_three min_three max_four min_four
set_option linter.unusedVariables false
set_option linter.unusedSimpArgs false
def metrolabref01_Times.j0 : Nat → ByteArray → ByteArray → Int → Int → Bool → Option (ByteArray)
 | 0, _, _, _, _, _ => none
 | k + 1, x0, x1, x5, x6, x23 => if x23 = true then ((metrolabref01_Of.f k (wrap64 (x5 * x6))).bind fun t162 => (some t162)) else ((metrolabref01_size.f x0).bind fun t163 => ((metrolabref01_size.f x1).bind fun t164 => ((metrolabref01_product.f k t163 t164).bind fun t165 => ((metrolabref01_Below.f x0).bind fun t166 => ((metrolabref01_Below.f x1).bind fun t167 => ((metrolabref01_signed.f t165 (t166 != t167)).bind fun t168 => (some t168)))))))
def metrolabref01_Times.f (k : Nat) (a0 : ByteArray) (a1 : ByteArray) : Option (ByteArray) := (metrolabref01_brief.f k a0 a1).bind fun bt159 => (if bt159.2.2 = true then (metrolabref01_Times.j0 k a0 a1 bt159.1 bt159.2.1 (decide ((wrap64 ((a0.size : Int) + (a1.size : Int))) ≤ 18))) else (metrolabref01_Times.j0 k a0 a1 bt159.1 bt159.2.1 false))
set_option maxHeartbeats 8000000 in
set_option maxRecDepth 100000 in
theorem metrolabref01_Times.calls (k : Nat) (a0 : ByteArray) (a1 : ByteArray) (r : ByteArray) (w : World) (h : metrolabref01_Times.f k a0 a1 = some r) :
  Calls Tryz.prog 97 #[.string a0, .string a1] w fun e w' => e = .returned (.string r) ∧ Below w.heap.size w w' := by
 have HB := Aside0.mk (Below.refl w.heap.size w)
 have H : ((metrolabref01_brief.f k a0 a1).bind fun bt159 => (if bt159.2.2 = true then (metrolabref01_Times.j0 k a0 a1 bt159.1 bt159.2.1 (decide ((wrap64 ((a0.size : Int) + (a1.size : Int))) ≤ 18))) else (metrolabref01_Times.j0 k a0 a1 bt159.1 bt159.2.1 false))) = some r := h
 clear h
 obtain ⟨⟨t159, t160, t161⟩, A3, H⟩ := bindA H
 dsimp only at H
 have HC4 := Aside0.mk H
 clear H
 go_enter Tryz.func97, Tryz.ntmps97
 go_upto_region 2 with (first | (refine gz (f := 105) rfl (some 11) rfl Tryz.func105 (metrolabref01_brief.calls k a0 a1 t159 t160 t161 _ A3.out) ?_; rintro w' ⟨nd, rfl⟩))
 (try simp only [Act.put, List.setIfInBounds_toArray, List.set_cons_zero, List.set_cons_succ])
 go_cut [23] (fun v23 wc => ∃ (kq : Nat) (x23_3 : Bool), v23 = .bool x23_3 ∧ Aside0 (metrolabref01_Times.j0 kq a0 a1 t159 t160 x23_3 = some r) ∧ Aside0 (kq ≤ k) ∧ Aside0 (Below w.heap.size w wc))
 case first =>
  have H := HC4.out
  clear HC4
  by_cases c5 : t161 = true
  ·subst c5
   rw [if_pos rfl] at H
   have H' := Aside0.mk H
   clear H
   go_wp2
   go_meet
   case rel => exact ⟨_, (decide ((wrap64 ((a0.size : Int) + (a1.size : Int))) ≤ 18)), z25_, H', ⟨by first | omega | exact Nat.le_refl _⟩, ⟨by repeat (first | (with_reducible first | exact HB.out | apply below_alloc | apply pw_below_drewN | apply below_drew1) | exact HB.out)⟩⟩
  ·replace c5 := Bool.eq_false_iff.mpr c5
   subst c5
   rw [if_neg (show ¬ (false = true) by decide)] at H
   have H' := Aside0.mk H
   clear H
   go_wp2
   go_meet
   case rel => exact ⟨_, (false), z25_, H', ⟨by first | omega | exact Nat.le_refl _⟩, ⟨by repeat (first | (with_reducible first | exact HB.out | apply below_alloc | apply pw_below_drewN | apply below_drew1) | exact HB.out)⟩⟩
 case rest =>
  clear HC4
  try clear c1
  try clear p2
  try clear c5
  obtain ⟨kq, x23_3, rfl, HA, HJ3, HB⟩ := hcut
  cases kq with
  | zero => exact absurd HA.out (by simp [metrolabref01_Times.j0])
  | succ kj3 =>
   have H := HA.out
   clear HA
   simp only [metrolabref01_Times.j0] at H
   by_cases c6 : x23_3 = true
   ·subst c6
    rw [if_pos rfl] at H
    obtain ⟨t162, A7, H⟩ := bindA H
    obtain rfl := Option.some.inj H
    go_wp2_with (first | (refine gy (f := 106) rfl (some 27) rfl Tryz.func106 (metrolabref01_Of.calls kj3 (wrap64 (t159 * t160)) t162 _ A7.out) z10_ ?_; clear HB; intro w8 HB))
    go_ret
    exact ⟨z24_, z10_⟩
   ·replace c6 := Bool.eq_false_iff.mpr c6
    subst c6
    rw [if_neg (show ¬ (false = true) by decide)] at H
    obtain ⟨t163, A9, H⟩ := bindA H
    obtain ⟨t164, A10, H⟩ := bindA H
    obtain ⟨t165, A11, H⟩ := bindA H
    obtain ⟨t166, A12, H⟩ := bindA H
    obtain ⟨t167, A13, H⟩ := bindA H
    obtain ⟨t168, A14, H⟩ := bindA H
    obtain rfl := Option.some.inj H
    go_wp2_with (first | (refine gz (f := 90) rfl (some 29) rfl Tryz.func90 (metrolabref01_size.calls a0 t163 _ A9.out) ?_; rintro w' ⟨nd, rfl⟩) | (refine gz (f := 90) rfl (some 31) rfl Tryz.func90 (metrolabref01_size.calls a1 t164 _ A10.out) ?_; rintro w' ⟨nd, rfl⟩) | (refine gy (f := 135) rfl (some 32) rfl Tryz.func135 (metrolabref01_product.calls kj3 t163 t164 t165 _ A11.out) z10_ ?_; clear HB; intro w15 HB) | (refine gz (f := 92) rfl (some 34) rfl Tryz.func92 (metrolabref01_Below.calls a0 t166 _ A12.out) ?_; rintro w' ⟨nd, rfl⟩) | (refine gz (f := 92) rfl (some 36) rfl Tryz.func92 (metrolabref01_Below.calls a1 t167 _ A13.out) ?_; rintro w' ⟨nd, rfl⟩) | (refine gz (f := 104) rfl (some 38) rfl Tryz.func104 (metrolabref01_signed.calls t165 (t166 != t167) t168 _ A14.out) ?_; rintro w' ⟨nd, rfl⟩))
    go_ret
    exact ⟨z24_, z10_⟩
end Go.Proofs.YtkdpcgmnkifbbaaGreatDoor.R
end
section
namespace Go.Proofs.YtkdpcgmnkifbbaaGreatDoor.R
open Go.RowKit Go.Proofs.YtkdpcgmnkifbbaaGreatDoorW.PrintWords Go.Proofs.YtkdpcgmnkifbbaaGreatDoorW.PrintLast Go.Proofs.YtkdpcgmnkifbbaaGreatDoorW.PrintMore
attribute [local go_sem] max2_int min2_int max_two min_two max_three min_three max_four min_four
set_option linter.unusedVariables false
set_option linter.unusedSimpArgs false
mutual
def metrolabref01_Chosen.j0 : Nat → Int → Int → Bool → Option (ByteArray)
 | 0, _, _, _ => none
 | k + 1, x0, x1, x15 => if x15 = true then (some (⟨#[48]⟩ : ByteArray)) else (metrolabref01_Chosen.l0 k x0 x1 (([(⟨#[49]⟩ : ByteArray)] : List ByteArray)) 1)
def metrolabref01_Chosen.l0 : Nat → Int → Int → List ByteArray → Int → Option (ByteArray)
 | 0, _, _, _, _ => none
 | k + 1, x0, x1, x5, x6 => if x6 ≤ x0 then (metrolabref01_Chosen.l1 k x0 x1 x5 x6 (([(⟨#[49]⟩ : ByteArray)] : List ByteArray)) 1) else (if 0 ≤ x1 then (if x1 < (x5.length : Int) then (some (rdOf ByteArray.empty x5 x1)) else (none)) else (none))
def metrolabref01_Chosen.l1 : Nat → Int → Int → List ByteArray → Int → List ByteArray → Int → Option (ByteArray)
 | 0, _, _, _, _, _, _ => none
 | k + 1, x0, x1, x5, x6, x7, x8 => if x8 < x6 then (if 0 ≤ (wrap64 (x8 - 1)) then (if (wrap64 (x8 - 1)) < (x5.length : Int) then (if 0 ≤ x8 then (if x8 < (x5.length : Int) then ((metrolabref01_Plus.f k (rdOf ByteArray.empty x5 (wrap64 (x8 - 1))) (rdOf ByteArray.empty x5 x8)).bind fun t218 => (if x7.length < 8796093022208 then (metrolabref01_Chosen.l1 k x0 x1 x5 x6 (x7 ++ [t218]) (wrap64 (x8 + 1))) else (none))) else (none)) else (none)) else (none)) else (none)) else (if x7.length < 8796093022208 then (metrolabref01_Chosen.l0 k x0 x1 (x7 ++ [(⟨#[49]⟩ : ByteArray)]) (wrap64 (x6 + 1))) else (none))
end
def metrolabref01_Chosen.f (k : Nat) (a0 : Int) (a1 : Int) : Option (ByteArray) := if a1 < 0 then (metrolabref01_Chosen.j0 k a0 a1 true) else (metrolabref01_Chosen.j0 k a0 a1 (decide (a1 > a0)))
def metrolabref01_Chosen.T11 : Bool × List (List Nat × List Nat) := (true, [([], []), ([], []), ([], []), ([2], [2]), ([1, 3], [1, 3]), ([4], [4]), ([], []), ([], []), ([6, 7], [6, 7]), ([8], [8]), ([5, 9], [5, 9]), ([10], [10]), ([0, 11, 10], [0, 11]), ([12, 12, 0, 1, 2, 3, 4, 5, 6, 7, 8, 9, 10, 11, 12], [0, 12])])
def metrolabref01_Chosen.B11 : List Nat := [0, 0, 0, 4, 14, 30, 0, 0, 192, 448, 1022, 2046, 4095, 8191]
theorem metrolabref01_Chosen.tab11 : rtab .any (opsOf Tryz.f98 11) = metrolabref01_Chosen.T11 := by kernel_rfl
theorem metrolabref01_Chosen.bits11 : waitsOk metrolabref01_Chosen.T11.2 metrolabref01_Chosen.B11 = true := by kernel_rfl
set_option maxHeartbeats 8000000 in
set_option maxRecDepth 100000 in
theorem metrolabref01_Chosen.calls (k : Nat) (a0 : Int) (a1 : Int) (r : ByteArray) (w : World) (h : metrolabref01_Chosen.f k a0 a1 = some r) :
  Calls Tryz.prog 98 #[.int .i64 a0, .int .i64 a1] w fun e w' => e = .returned (.string r) ∧ Below w.heap.size w w' := by
 have HB := Aside0.mk (Below.refl w.heap.size w)
 have H : (if a1 < 0 then (metrolabref01_Chosen.j0 k a0 a1 true) else (metrolabref01_Chosen.j0 k a0 a1 (decide (a1 > a0)))) = some r := h
 clear h
 have HC3 := Aside0.mk H
 clear H
 go_enter Tryz.func98, Tryz.ntmps98
 go_upto_region 1 with (fail)
 go_cut [15] (fun v15 wc => ∃ (kq : Nat) (x15_2 : Bool), v15 = .bool x15_2 ∧ Aside0 (metrolabref01_Chosen.j0 kq a0 a1 x15_2 = some r) ∧ Aside0 (kq ≤ k) ∧ Aside0 (Below w.heap.size w wc))
 case first =>
  have H := HC3.out
  clear HC3
  by_cases c4 : a1 < 0
  ·rw [if_pos c4] at H
   have c4b0 : decide (a1 < 0) = true := decide_eq_true c4
   clear c4
   (first | rw [c4b0] | (simp only [i64_w, i32_w]; rw [c4b0]) | skip)
   have H' := Aside0.mk H
   clear H
   go_wp2
   go_meet
   case rel => exact ⟨_, (true), z25_, H', ⟨by first | omega | exact Nat.le_refl _⟩, ⟨by repeat (first | (with_reducible first | exact HB.out | apply below_alloc | apply pw_below_drewN | apply below_drew1) | exact HB.out)⟩⟩
  ·rw [if_neg c4] at H
   have c4b0 : decide (a1 < 0) = false := decide_eq_false c4
   clear c4
   (first | rw [c4b0] | (simp only [i64_w, i32_w]; rw [c4b0]) | skip)
   have H' := Aside0.mk H
   clear H
   go_wp2
   go_meet
   case rel => exact ⟨_, (decide (a1 > a0)), z25_, H', ⟨by first | omega | exact Nat.le_refl _⟩, ⟨by repeat (first | (with_reducible first | exact HB.out | apply below_alloc | apply pw_below_drewN | apply below_drew1) | exact HB.out)⟩⟩
 case rest =>
  clear HC3
  try clear p2
  try clear c4
  try clear c4b0
  obtain ⟨kq, x15_2, rfl, HA, HJ2, HB⟩ := hcut
  cases kq with
  | zero => exact absurd HA.out (by simp [metrolabref01_Chosen.j0])
  | succ kj2 =>
   have H := HA.out
   clear HA
   simp only [metrolabref01_Chosen.j0] at H
   by_cases c5 : x15_2 = true
   ·subst c5
    rw [if_pos rfl] at H
    obtain rfl := Option.some.inj H
    go_wp2
    go_ret
    exact ⟨z24_, z10_⟩
   ·replace c5 := Bool.eq_false_iff.mpr c5
    subst c5
    rw [if_neg (show ¬ (false = true) by decide)] at H
    obtain ⟨y209, hy209⟩ : ∃ y_ : List ByteArray, y_ = (([(⟨#[49]⟩ : ByteArray)] : List ByteArray)) := ⟨_, rfl⟩
    replace H : (metrolabref01_Chosen.l0 kj2 a0 a1 y209 1) = some r := by first | (rw [hy209]; with_reducible exact H) | (have H2_ := (Option.bind_some _ _).symm.trans H; rw [hy209]; with_reducible exact H2_) | (have H2_ := (Option.bind_some _ _).symm.trans H; with_reducible exact H2_) | with_reducible exact H | (rw [hy209]; exact H) | exact H
    have Ny209 := Aside0.mk hy209
    clear hy209
    have H' := Aside0.mk H
    clear H
    go_wp2_with (first | ((with_reducible refine gate_dst (N := 16) rfl ?_); refine Kd.R_lit Kd.string _ 39 ?hg (N := 16) ?hd (xs := ([(⟨#[49]⟩ : ByteArray)] : List ByteArray)) (inner := [.string (⟨#[49]⟩ : ByteArray)]) (ok := fun _ => True) (okp := fun _ => True) ?hr ?hp (fun _ hk => hk) trivial (Below.refl _ _) (Nat.le_refl _) (by simp) ?_; (case hd => rfl); (case hg => rfl); (case hr => first | (go_simp; done) | (go_simp; rfl)); (case hp => exact (Reps.one (show Kd.M Kd.string _ _ _ (⟨#[49]⟩ : ByteArray) [.string (⟨#[49]⟩ : ByteArray)] from rfl) (Reps.none _ _))); intro v210 w6 ho7 hb hg_ hnew_; clear hg_ hnew_; (first | rw [← Ny209.out] at ho7 | (simp only [Int.reduceToNat] at ho7; rw [← Ny209.out] at ho7)); have n0_ := Aside0.mk (Kd.R_lower ho7 (below_size z10_)); have n1_ := Aside0.mk (below_step z10_ hb); clear HB; have HO211 := n0_; have HB := n1_; clear n0_ n1_; clear hb ho7))
    go_loopg [5, 6] kj2 (fun kq v5 v6 w' => ∃ (x5_2 : List ByteArray) (x6_2 : Int), v6 = .int .i64 x6_2 ∧ Aside0 (metrolabref01_Chosen.l0 kq a0 a1 x5_2 x6_2 = some r) ∧ Aside0 (kq ≤ kj2) ∧ Aside0 (Kd.R Kd.string 39 w' w.heap.size (fun _ => True) v5 x5_2) ∧ Aside0 (Below w.heap.size w w'))
    case atStart => exact ⟨(y209), (1), z25_, H', ⟨Nat.le_refl _⟩, ⟨by (with_reducible repeat (first | apply Kd.R_alloc | apply Kd.R_drewN | apply Kd.R_drew)); first | exact HO211.out | (simp only [w64_m256]; exact HO211.out)⟩, ⟨by repeat (first | (with_reducible first | exact HB.out | apply below_alloc | apply pw_below_drewN | apply below_drew1) | exact HB.out)⟩⟩
    case round =>
     clear H'
     try clear p2
     try clear c4
     try clear c4b0
     try clear c5
     try clear p2
     obtain ⟨x5_2, x6_2, rfl, HA, HK2, HO_5, HB⟩ := hrel
     cases gk with
     | zero => exact absurd HA.out (by simp [metrolabref01_Chosen.l0])
     | succ k2 =>
      have H := HA.out
      clear HA
      simp only [metrolabref01_Chosen.l0] at H
      by_cases c8 : x6_2 ≤ a0
      ·rw [if_pos c8] at H
       have c8b0 : decide (x6_2 ≤ a0) = true := decide_eq_true c8
       clear c8
       obtain ⟨y213, hy213⟩ : ∃ y_ : List ByteArray, y_ = (([(⟨#[49]⟩ : ByteArray)] : List ByteArray)) := ⟨_, rfl⟩
       replace H : (metrolabref01_Chosen.l1 k2 a0 a1 x5_2 x6_2 y213 1) = some r := by first | (rw [hy213]; with_reducible exact H) | (have H2_ := (Option.bind_some _ _).symm.trans H; rw [hy213]; with_reducible exact H2_) | (have H2_ := (Option.bind_some _ _).symm.trans H; with_reducible exact H2_) | with_reducible exact H | (rw [hy213]; exact H) | exact H
       have Ny213 := Aside0.mk hy213
       clear hy213
       have H' := Aside0.mk H
       clear H
       go_wp2_with (first | ((with_reducible refine gate_dst (N := 22) rfl ?_); refine Kd.R_lit Kd.string _ 39 ?hg (N := 22) ?hd (xs := ([(⟨#[49]⟩ : ByteArray)] : List ByteArray)) (inner := [.string (⟨#[49]⟩ : ByteArray)]) (ok := fun _ => True) (okp := fun _ => True) ?hr ?hp (fun _ hk => hk) trivial (Below.refl _ _) (Nat.le_refl _) (by simp) ?_; (case hd => rfl); (case hg => rfl); (case hr => first | (go_simp; done) | (go_simp; rfl)); (case hp => exact (Reps.one (show Kd.M Kd.string _ _ _ (⟨#[49]⟩ : ByteArray) [.string (⟨#[49]⟩ : ByteArray)] from rfl) (Reps.none _ _))); intro v214 w9 ho10 hb hg_ hnew_; clear hg_ hnew_; (first | rw [← Ny213.out] at ho10 | (simp only [Int.reduceToNat] at ho10; rw [← Ny213.out] at ho10)); have n0_ := Aside0.mk (Kd.R_elder' z20_ (Kd.R_base ho10) hb); have n1_ := Aside0.mk (Kd.R_lower (Kd.R_new' ho10 (Kd.R_lt z20_)) (below_size z10_)); have n2_ := Aside0.mk (below_step z10_ hb); clear HO_5; clear HB; have HO_5 := n0_; have HO215 := n1_; have HB := n2_; clear n0_ n1_ n2_; clear hb ho10))
       go_loopg [7, 8] k2 (fun kq v7 v8 w' => ∃ (x7_3 : List ByteArray) (x8_3 : Int), v8 = .int .i64 x8_3 ∧ Aside0 (metrolabref01_Chosen.l1 kq a0 a1 x5_2 x6_2 x7_3 x8_3 = some r) ∧ Aside0 (kq ≤ k2) ∧ Aside0 (Kd.R Kd.string 39 w' w.heap.size (fun k_ => some k_ ≠ (v7 : Value).ownBlock) u5 x5_2) ∧ Aside0 (Kd.R Kd.string 39 w' w.heap.size (fun k_ => some k_ ≠ (u5 : Value).ownBlock) v7 x7_3) ∧ Aside0 (Below w.heap.size w w'))
       case atStart => exact ⟨(y213), (1), z25_, H', ⟨Nat.le_refl _⟩, ⟨by (with_reducible repeat (first | apply Kd.R_alloc | apply Kd.R_drewN | apply Kd.R_drew)); exact Kd.R_mono HO_5.out (fun _ hk => hk.2)⟩, ⟨by (with_reducible repeat (first | apply Kd.R_alloc | apply Kd.R_drewN | apply Kd.R_drew)); exact Kd.R_mono HO215.out (fun _ hk => hk.2)⟩, ⟨by repeat (first | (with_reducible first | exact HB.out | apply below_alloc | apply pw_below_drewN | apply below_drew1) | exact HB.out)⟩⟩
       case round =>
        clear H'
        try clear p2
        try clear c4
        try clear c4b0
        try clear c5
        try clear c8
        try clear c8b0
        try clear c9
        try clear p2
        obtain ⟨x7_3, x8_3, rfl, HA, HK3, HO_5, HO_7, HB⟩ := hrel
        cases gk with
        | zero => exact absurd HA.out (by simp [metrolabref01_Chosen.l1])
        | succ k3 =>
         have H := HA.out
         clear HA
         simp only [metrolabref01_Chosen.l1] at H
         by_cases c11 : x8_3 < x6_2
         ·rw [if_pos c11] at H
          have c11b0 : decide (x8_3 < x6_2) = true := decide_eq_true c11
          clear c11
          obtain ⟨ji12, hji12⟩ : ∃ j_ : Int, (wrap64 (x8_3 - 1)) = j_ := ⟨_, rfl⟩
          replace H : (if 0 ≤ (ji12) then (if (ji12) < (x5_2.length : Int) then (if 0 ≤ x8_3 then (if x8_3 < (x5_2.length : Int) then ((metrolabref01_Plus.f k3 (rdOf ByteArray.empty x5_2 (ji12)) (rdOf ByteArray.empty x5_2 x8_3)).bind fun t218 => (if x7_3.length < 8796093022208 then (metrolabref01_Chosen.l1 k3 a0 a1 x5_2 x6_2 (x7_3 ++ [t218]) (wrap64 (x8_3 + 1))) else (none))) else (none)) else (none)) else (none)) else (none)) = some r := by first | (rw [hji12] at H; exact H) | (simp only [hji12] at H ⊢; exact H)
          have hji12w : (IntKind.i64.wrap (x8_3 - 1)) = ji12 := (i64_w _).trans hji12
          by_cases c13 : 0 ≤ (ji12)
          ·rw [if_pos c13] at H
           have c13b0 : decide (0 ≤ (ji12)) = true := decide_eq_true c13
           clear c13
           by_cases c14 : (ji12) < (x5_2.length : Int)
           ·rw [if_pos c14] at H
            have c14b0 : decide ((ji12) < (x5_2.length : Int)) = true := decide_eq_true c14
            clear c14
            by_cases c15 : 0 ≤ x8_3
            ·rw [if_pos c15] at H
             have c15b0 : decide (0 ≤ x8_3) = true := decide_eq_true c15
             clear c15
             by_cases c16 : x8_3 < (x5_2.length : Int)
             ·rw [if_pos c16] at H
              have c16b0 : decide (x8_3 < (x5_2.length : Int)) = true := decide_eq_true c16
              clear c16
              obtain ⟨t218, A17, H⟩ := bindA H
              by_cases c18 : x7_3.length < 8796093022208
              ·rw [if_pos c18] at H
               have LMc18 := Aside0.mk c18
               clear c18
               obtain ⟨y219, hy219⟩ : ∃ y_ : List ByteArray, y_ = (x7_3 ++ [t218]) := ⟨_, rfl⟩
               replace H : (metrolabref01_Chosen.l1 k3 a0 a1 x5_2 x6_2 y219 (wrap64 (x8_3 + 1))) = some r := by first | (rw [hy219]; with_reducible exact H) | (have H2_ := (Option.bind_some _ _).symm.trans H; rw [hy219]; with_reducible exact H2_) | (have H2_ := (Option.bind_some _ _).symm.trans H; with_reducible exact H2_) | with_reducible exact H | (rw [hy219]; exact H) | exact H
               have Ny219 := Aside0.mk hy219
               clear hy219
               have H' := Aside0.mk H
               clear H
               try go_wp2
               have n0_ := Aside0.mk (Kd.R_drew HO_5.out)
               have n1_ := Aside0.mk (Kd.R_drew HO_7.out)
               have n2_ := Aside0.mk (below_drew1 HB.out)
               clear HO_5
               clear HO_7
               clear HB
               have HO_5 := n0_
               have HO_7 := n1_
               have HB := n2_
               clear n0_ n1_ n2_
               obtain ⟨Ao20, co20, eo20⟩ := Kd.R_slice HO_5.out
               (first | subst eo20 | (injection eo20 with f1_ f2_ f3_; have f4_ := f1_.symm; have f5_ := f3_.symm; clear f1_ f2_ f3_; subst f4_; subst f5_))
               have p216 : 0 ≤ ((ji12) : Int) := of_decide_eq_true z26_
               have q216 : (ji12) < (x5_2.length : Int) := of_decide_eq_true z26_
               obtain ⟨ad216, e216, hx216_0⟩ := Kd.at_string (Kd.R_reads' HO_5.out).2.2 (ji12) p216 q216
               cases e216
               replace p216 := eq_true p216
               replace q216 := eq_true q216
               have p217 : 0 ≤ (x8_3 : Int) := of_decide_eq_true z26_
               have q217 : x8_3 < (x5_2.length : Int) := of_decide_eq_true z26_
               obtain ⟨ad217, e217, hx217_0⟩ := Kd.at_string (Kd.R_reads' HO_5.out).2.2 x8_3 p217 q217
               obtain rfl : ad216 = ad217 := (by injection e217)
               replace p217 := eq_true p217
               replace q217 := eq_true q217
               refine start_ (n := 14) (S := fun w' => w'.cell? (ad216.add ((ji12)).toNat) = some (.string (rdOf ByteArray.empty x5_2 (ji12))) ∧ w'.cell? (ad216.add (x8_3).toNat) = some (.string (rdOf ByteArray.empty x5_2 x8_3))) (ds := [11, 12]) #[false, false, false, false, false, false, false, false, false, false, false, false, false, false] (by kernel_rfl) rfl rfl ⟨hx216_0, hx217_0⟩ (fun hHeld => ?_); refine with_tabW metrolabref01_Chosen.tab11 metrolabref01_Chosen.bits11 (fun HT_ HW_ => ?_)
               generalize wr.drew = w19 at HO_5 HO_7 HB hx216_0 hx217_0 hHeld ⊢
               refine pu_ (i := 0) (N := some 28) #[true, false, false, false, false, false, false, false, false, false, false, false, false, false] HT_.out ?_
               refine pu_ (i := 1) (N := some 29) #[true, true, false, false, false, false, false, false, false, false, false, false, false, false] HT_.out ?_
               refine pu_ (i := 2) (N := some 30) #[true, true, true, false, false, false, false, false, false, false, false, false, false, false] HT_.out ?_
               refine pu_ (i := 3) (N := some 31) #[true, true, true, true, false, false, false, false, false, false, false, false, false, false] HT_.out ?_
               refine pu_ (i := 4) (N := some 32) #[true, true, true, true, true, false, false, false, false, false, false, false, false, false] HT_.out ?_
               refine pu_ (i := 6) (N := some 34) #[true, true, true, true, true, false, true, false, false, false, false, false, false, false] HT_.out ?_
               refine pu_ (i := 7) (N := some 35) #[true, true, true, true, true, false, true, true, false, false, false, false, false, false] HT_.out ?_
               refine pu_ (i := 8) (N := some 36) #[true, true, true, true, true, false, true, true, true, false, false, false, false, false] HT_.out ?_
               refine take_ (i := 5) (N := some 33) (v := ?_) (a' := ?_) #[true, true, true, true, true, true, true, true, true, false, false, false, false, false] rfl rfl (take_ofW HT_.out HW_.out (by kernel_rfl)) (fun _ _ _ h => h) (Or.inl ⟨by rfl, ?_⟩) hHeld ?_ ?_
               rotate_left
               ·rintro w' ⟨s0, s1⟩
                go_simp
                with_reducible rfl
               rotate_left
               ·simp only [Act.put, List.setIfInBounds_toArray, List.set_cons_zero, List.set_cons_succ, i64_w, i32_w]
                rfl
               refine take_ (i := 9) (N := some 37) (v := ?_) (a' := ?_) #[true, true, true, true, true, true, true, true, true, true, false, false, false, false] rfl rfl (take_ofW HT_.out HW_.out (by kernel_rfl)) (fun _ _ _ h => h) (Or.inl ⟨by rfl, ?_⟩) hHeld ?_ ?_
               rotate_left
               ·rintro w' ⟨s0, s1⟩
                go_simp
                with_reducible rfl
               rotate_left
               ·simp only [Act.put, List.setIfInBounds_toArray, List.set_cons_zero, List.set_cons_succ, i64_w, i32_w]
                rfl
               refine one_ (i := 10) (N := some 38) #[true, true, true, true, true, true, true, true, true, true, true, false, false, false] rfl rfl (one_of HT_.out (by kernel_rfl)) (by decide) (fun K hK => ?_)
               refine goes_ Tryz.func76 (by kernel_rfl) rfl #[.string (rdOf ByteArray.empty x5_2 (ji12)), .string (rdOf ByteArray.empty x5_2 x8_3)] (by rfl) rfl rfl (by (try simp only [List.map_toArray, List.map_cons, List.map_nil]); first | done | (simp only [hji12]; rfl) | rfl | (simp only [List.length_drop, List.length_take]; rfl)) ?_
               with_reducible refine (metrolabref01_Plus.calls k3 (rdOf ByteArray.empty x5_2 (ji12)) (rdOf ByteArray.empty x5_2 x8_3) t218 _ A17.out).mono ?_
               rintro e w21 ⟨rfl, hb⟩
               have HS0_ := (hb.cell (World.block_lt_of_cell? _ _ (hHeld.1))).trans (hHeld.1)
               have HS1_ := (hb.cell (World.block_lt_of_cell? _ _ (hHeld.2))).trans (hHeld.2)
               refine ⟨_, rfl, ?_⟩
               have n0_ := Aside0.mk (Kd.R_below z20_ hb)
               have n1_ := Aside0.mk (Kd.R_below z21_ hb)
               have n2_ := Aside0.mk (below_step z10_ hb)
               clear HO_5
               clear HO_7
               clear HB
               have HO_5 := n0_
               have HO_7 := n1_
               have HB := n2_
               clear n0_ n1_ n2_
               (try clear hb)
               (try clear hb2)
               (try clear hk)
               (try clear hi)
               refine hK.out _ _ ⟨HS0_, HS1_⟩ (fun hHeld => ?_)
               clear hK K
               refine norm_ (a' := ?_) ?_ ?_
               rotate_left
               ·show Act.put _ (some 38) _ = _
                simp only [Act.put, List.setIfInBounds_toArray, List.set_cons_zero, List.set_cons_succ, i64_w, i32_w]
                rfl
               refine last_ (i := 11) (N := some 39) #[true, true, true, true, true, true, true, true, true, true, true, true, false, false] rfl rfl (one_of HT_.out (by kernel_rfl)) (by decide) (fun K hK => ?_)
               refine value_ (w1 := ?_) (v := ?_) (by rfl) rfl ?_ ?_
               rotate_left 2
               ·go_simp
                constructor
                ·rfl
                ·rfl
               refine hK.out _ _ ?_
               clear hK K
               refine norm_ (a' := ?_) ?_ ?_
               rotate_left
               ·show Act.put _ (some 39) _ = _
                simp only [Act.put, List.setIfInBounds_toArray, List.set_cons_zero, List.set_cons_succ, i64_w, i32_w]
                rfl
               refine last_ (i := 12) (N := some 40) #[true, true, true, true, true, true, true, true, true, true, true, true, true, false] rfl rfl (one_of HT_.out (by kernel_rfl)) (by decide) (fun K hK => ?_)
               refine Kd.R_append_step Kd.string (w0 := w) w.heap.size (by rfl) (.tmp 28) (.tmp 39) 80 39 (.string ⟨#[]⟩) 16 rfl Tryz.underlying80 info39 rfl (by decide) (by omega) u7 x7_3 t218 [.string t218] (fun k_ => some k_ ≠ (.slice (some ad216) x5_2.length co20 : Value).ownBlock) (fun _ => False) rfl rfl ?aP (fun _ hk => hk.elim) ?aF ?aO ?aB ?aS ?aL ?_
               (case aP => exact rfl)
               (case aB => exact z10_)
               (case aF => exact (fun k_ hk => Kd.fresh' (Kd.R_lt z20_) k_ hk))
               (case aO => exact z21_)
               (case aS => exact (below_size z10_))
               (case aL => have := LMc18.out; omega)
               intro v220 w22 ho hb hg hat
               rw [← Ny219.out] at ho
               have n0_ := Aside0.mk (Kd.R_after (ok := (fun _ => True)) (by (with_reducible repeat (first | apply Kd.R_alloc | apply Kd.R_drewN | apply Kd.R_drew)); exact Kd.R_mono HO_5.out (fun _ hk => ⟨trivial, hk⟩)) hg hat)
               have n1_ := Aside0.mk (hb)
               have n2_ := Aside0.mk (ho)
               clear HO_5
               clear HB
               clear HO_7
               have HO_5 := n0_
               have HB := n1_
               have HO221 := n2_
               clear n0_ n1_ n2_
               clear ho hb hg hat
               refine hK.out _ _ ?_
               clear hK K
               refine norm_ (a' := ?_) ?_ ?_
               rotate_left
               ·show Act.put _ (some 40) _ = _
                simp only [Act.put, List.setIfInBounds_toArray, List.set_cons_zero, List.set_cons_succ, i64_w, i32_w]
                rfl
               refine pu_ (i := 13) (N := some 7) #[true, true, true, true, true, true, true, true, true, true, true, true, true, true] HT_.out ?_
               refine done_ (done_of HT_.out (by kernel_rfl)) ?_
               try go_wp2
               go_roundg k3
               case measure => have := HJ2.out; have := HK2.out; have := HK3.out; omega
               case rel => exact ⟨(y219), (wrap64 (x8_3 + 1)), z25_, H', ⟨by have := HJ2.out; have := HK2.out; have := HK3.out; omega⟩, ⟨by (with_reducible repeat (first | apply Kd.R_alloc | apply Kd.R_drewN | apply Kd.R_drew)); exact Kd.R_mono HO_5.out (fun _ hk => hk.2)⟩, ⟨by (with_reducible repeat (first | apply Kd.R_alloc | apply Kd.R_drewN | apply Kd.R_drew)); first | exact HO221.out | (simp only [w64_m256]; exact HO221.out)⟩, ⟨by repeat (first | (with_reducible first | exact HB.out | apply below_alloc | apply pw_below_drewN | apply below_drew1) | exact HB.out)⟩⟩
              ·rw [if_neg c18] at H
               exact absurd H (by simp)
             ·rw [if_neg c16] at H
              exact absurd H (by simp)
            ·rw [if_neg c15] at H
             exact absurd H (by simp)
           ·rw [if_neg c14] at H
            exact absurd H (by simp)
          ·rw [if_neg c13] at H
           exact absurd H (by simp)
         ·rw [if_neg c11] at H
          have c11b0 : decide (x8_3 < x6_2) = false := decide_eq_false c11
          clear c11
          by_cases c23 : x7_3.length < 8796093022208
          ·rw [if_pos c23] at H
           have LMc23 := Aside0.mk c23
           clear c23
           obtain ⟨y222, hy222⟩ : ∃ y_ : List ByteArray, y_ = (x7_3 ++ [(⟨#[49]⟩ : ByteArray)]) := ⟨_, rfl⟩
           replace H : (metrolabref01_Chosen.l0 k3 a0 a1 y222 (wrap64 (x6_2 + 1))) = some r := by first | (rw [hy222]; with_reducible exact H) | (have H2_ := (Option.bind_some _ _).symm.trans H; rw [hy222]; with_reducible exact H2_) | (have H2_ := (Option.bind_some _ _).symm.trans H; with_reducible exact H2_) | with_reducible exact H | (rw [hy222]; exact H) | exact H
           have Ny222 := Aside0.mk hy222
           clear hy222
           have H' := Aside0.mk H
           clear H
           go_wp2_with (first | ((with_reducible refine gate_builtin (b := .append) (xs := #[.tmp 41, .tmp 42]) rfl ?_); at_builtin; refine Kd.R_append Kd.string (w0 := w) w.heap.size rfl (.tmp 41) (.tmp 42) 80 39 (.string ⟨#[]⟩) 16 rfl Tryz.underlying80 info39 rfl (by decide) (by omega) u7 x7_3 (⟨#[49]⟩ : ByteArray) [.string (⟨#[49]⟩ : ByteArray)] (fun k_ => some k_ ≠ (u5 : Value).ownBlock) (fun _ => False) rfl rfl ?aP (fun _ hk => hk.elim) ?aF ?aO ?aB ?aS ?aL ?_; (case aP => exact rfl); (case aB => exact z10_); (case aF => exact (fun k_ hk => Kd.fresh' (Kd.R_lt z20_) k_ hk)); (case aO => exact z21_); (case aS => exact (below_size z10_)); (case aL => have := LMc23.out; omega); intro v223 w24 ho hb hg hat; rw [← Ny222.out] at ho; have n0_ := Aside0.mk (Kd.R_after (ok := (fun _ => True)) (by (with_reducible repeat (first | apply Kd.R_alloc | apply Kd.R_drewN | apply Kd.R_drew)); exact Kd.R_mono HO_5.out (fun _ hk => ⟨trivial, hk⟩)) hg hat); have n1_ := Aside0.mk (hb); have n2_ := Aside0.mk (ho); clear HO_5; clear HB; clear HO_7; have HO_5 := n0_; have HB := n1_; have HO224 := n2_; clear n0_ n1_ n2_; clear ho hb hg hat))
           go_roundg k3
           case measure => have := HJ2.out; have := HK2.out; have := HK3.out; omega
           case rel => exact ⟨(y222), (wrap64 (x6_2 + 1)), z25_, H', ⟨by have := HJ2.out; have := HK2.out; have := HK3.out; omega⟩, ⟨by (with_reducible repeat (first | apply Kd.R_alloc | apply Kd.R_drewN | apply Kd.R_drew)); exact Kd.R_mono HO224.out (fun _ hk => trivial)⟩, ⟨by repeat (first | (with_reducible first | exact HB.out | apply below_alloc | apply pw_below_drewN | apply below_drew1) | exact HB.out)⟩⟩
          ·rw [if_neg c23] at H
           exact absurd H (by simp)
      ·rw [if_neg c8] at H
       have c8b0 : decide (x6_2 ≤ a0) = false := decide_eq_false c8
       clear c8
       by_cases c25 : 0 ≤ a1
       ·rw [if_pos c25] at H
        have c25b0 : decide (0 ≤ a1) = true := decide_eq_true c25
        clear c25
        by_cases c26 : a1 < (x5_2.length : Int)
        ·rw [if_pos c26] at H
         have c26b0 : decide (a1 < (x5_2.length : Int)) = true := decide_eq_true c26
         clear c26
         obtain rfl := Option.some.inj H
         obtain ⟨Ao27, co27, eo27⟩ := Kd.R_slice HO_5.out
         subst eo27
         have p212 : 0 ≤ (a1 : Int) := of_decide_eq_true z26_
         have q212 : a1 < (x5_2.length : Int) := of_decide_eq_true z26_
         obtain ⟨ad212, e212, hx212_0⟩ := Kd.at_string (Kd.R_reads' HO_5.out).2.2 a1 p212 q212
         cases e212
         replace p212 := eq_true p212
         replace q212 := eq_true q212
         go_wp2
         go_ret
         exact ⟨z24_, z10_⟩
        ·rw [if_neg c26] at H
         exact absurd H (by simp)
       ·rw [if_neg c25] at H
        exact absurd H (by simp)
end Go.Proofs.YtkdpcgmnkifbbaaGreatDoor.R
end
