/- Joined by a program of this session out of its texts, with only what the last theorem needs: Dx7 Dx8 Pl Pm. No conditions but those stated. -/
import Derived.Test.YtkdpcgmnkifbbaaGreatDoorZ07
import Derived.Test.YtkdpcgmnkifbbaaGreatDoorZ21
import Derived.Test.YtkdpcgmnkifbbaaGreatDoorZ17
set_option linter.unusedVariables false
set_option linter.unusedSimpArgs false
namespace Go.Proofs.YtkdpcgmnkifbbaaGreatDoorW.PrintLast
end Go.Proofs.YtkdpcgmnkifbbaaGreatDoorW.PrintLast
namespace Go.Proofs.YtkdpcgmnkifbbaaGreatDoorW.PrintMore
end Go.Proofs.YtkdpcgmnkifbbaaGreatDoorW.PrintMore
namespace Go.Proofs.YtkdpcgmnkifbbaaGreatDoorW.PrintWords
end Go.Proofs.YtkdpcgmnkifbbaaGreatDoorW.PrintWords
section
namespace Go.Proofs.YtkdpcgmnkifbbaaGreatDoor.D
open Go.RowKit Go.Proofs.YtkdpcgmnkifbbaaGreatDoorW.PrintWords Go.Proofs.YtkdpcgmnkifbbaaGreatDoorW.PrintLast Go.Proofs.YtkdpcgmnkifbbaaGreatDoorW.PrintMore
attribute [local go_sem] max2_int min2_int max_two min_two max_three min_three max_four min_four
set_option linter.unusedVariables false
set_option linter.unusedSimpArgs false
mutual
def metrolabref26_Within.l0 : Nat → List (S60) → Int → Int → ByteArray → Int → Option (ByteArray)
 | 0, _, _, _, _, _ => none
 | k + 1, x0, x1, x2, x7, x8 => if x8 < (x0.length : Int) then (if 0 ≤ x8 then (if ((rd_T60 x0 x8).f0) ≥ x1 then (metrolabref26_Within.j1 k x0 x1 x2 x7 x8 (decide (((rd_T60 x0 x8).f0) ≤ x2))) else (metrolabref26_Within.j1 k x0 x1 x2 x7 x8 false)) else (none)) else (some x7)
def metrolabref26_Within.j1 : Nat → List (S60) → Int → Int → ByteArray → Int → Bool → Option (ByteArray)
 | 0, _, _, _, _, _, _ => none
 | k + 1, x0, x1, x2, x7, x8, x30 => if x30 = true then ((metrolabref26_Chance.f k x0 x8).bind fun t209 => ((metrolabref02_Plus.f x7 t209).bind fun t210 => (metrolabref26_Within.l0 k x0 x1 x2 t210 (wrap64 (x8 + 1))))) else (metrolabref26_Within.l0 k x0 x1 x2 x7 (wrap64 (x8 + 1)))
end
def metrolabref26_Within.f (k : Nat) (l0 : List (S60)) (a1 : Int) (a2 : Int) : Option (ByteArray) := metrolabref26_Within.l0 k l0 a1 a2 (⟨#[48]⟩ : ByteArray) 0
set_option maxHeartbeats 8000000 in
set_option maxRecDepth 100000 in
theorem metrolabref26_Within.calls (k : Nat) (A0 : Option Addr) (c0 : Nat) (l0 : List (S60)) (a1 : Int) (a2 : Int) (r : ByteArray) (w : World) (hr0 : Kd.C k60 w A0 l0.length l0) (hc0 : l0.length ≤ c0) (h : metrolabref26_Within.f k l0 a1 a2 = some r) :
  Calls Tryz.prog 35 #[.slice A0 l0.length c0, .int .i64 a1, .int .i64 a2] w fun e w' => e = .returned (.string r) ∧ Below w.heap.size w w' := by
 have HR0 := Aside0.mk hr0
 have HC0 := Aside0.mk hc0
 clear hr0 hc0
 have HB := Aside0.mk (Below.refl w.heap.size w)
 have H : (metrolabref26_Within.l0 k l0 a1 a2 (⟨#[48]⟩ : ByteArray) 0) = some r := h
 clear h
 have H' := Aside0.mk H
 clear H
 go_enter Tryz.func35, Tryz.ntmps35
 go_wp2
 go_loopg [7, 8] k (fun kq v7 v8 w' => ∃ (x7_1 : ByteArray) (x8_1 : Int), v7 = .string x7_1 ∧ v8 = .int .i64 x8_1 ∧ Aside0 (metrolabref26_Within.l0 kq l0 a1 a2 x7_1 x8_1 = some r) ∧ Aside0 (kq ≤ k) ∧ Aside0 (Below w.heap.size w w'))
 case atStart => exact ⟨((⟨#[48]⟩ : ByteArray)), (0), z25_, z25_, H', ⟨Nat.le_refl _⟩, ⟨by repeat (first | (with_reducible first | exact HB.out | apply below_alloc | apply pw_below_drewN | apply below_drew1) | exact HB.out)⟩⟩
 case round =>
  clear H'
  try clear p2
  try clear c3
  obtain ⟨x7_1, x8_1, rfl, rfl, HA, HK1, HB⟩ := hrel
  cases gk with
  | zero => exact absurd HA.out (by simp [metrolabref26_Within.l0])
  | succ k1 =>
   have H := HA.out
   clear HA
   simp only [metrolabref26_Within.l0] at H
   by_cases c4 : x8_1 < (l0.length : Int)
   ·rw [if_pos c4] at H
    have c4b0 : decide (x8_1 < (l0.length : Int)) = true := decide_eq_true c4
    clear c4
    have HC5 := Aside0.mk H
    clear H
    go_upto_region 5 with (fail)
    go_cut [30] (fun v30 wc => ∃ (kq : Nat) (x30_4 : Bool), v30 = .bool x30_4 ∧ Aside0 (metrolabref26_Within.j1 kq l0 a1 a2 x7_1 x8_1 x30_4 = some r) ∧ Aside0 (kq ≤ k1) ∧ Aside0 (Below w.heap.size w wc))
    case first =>
     have H := HC5.out
     clear HC5
     by_cases c6 : 0 ≤ x8_1
     ·rw [if_pos c6] at H
      have c6b0 : decide (0 ≤ x8_1) = true := decide_eq_true c6
      clear c6
      (first | rw [c6b0] | (simp only [i64_w, i32_w]; rw [c6b0]) | skip)
      by_cases c7 : ((rd_T60 l0 x8_1).f0) ≥ a1
      ·rw [if_pos c7] at H
       have c7b0 : decide (a1 ≤ ((rd_T60 l0 x8_1).f0)) = true := decide_eq_true c7
       clear c7
       have H' := Aside0.mk H
       clear H
       have p207 : 0 ≤ (x8_1 : Int) := of_decide_eq_true z26_
       have q207 : x8_1 < (l0.length : Int) := of_decide_eq_true z26_
       obtain ⟨ad207, e207, hx207_0, hx207_1⟩ := at_T60 HR0.out x8_1 p207 q207
       cases e207
       replace hx207_0 := (HB.out.cell (World.block_lt_of_cell? w _ hx207_0)).trans hx207_0
       replace hx207_1 := (HB.out.cell (World.block_lt_of_cell? w _ hx207_1)).trans hx207_1
       replace p207 := eq_true p207
       replace q207 := eq_true q207
       have p208 : 0 ≤ (x8_1 : Int) := of_decide_eq_true z26_
       have q208 : x8_1 < (l0.length : Int) := of_decide_eq_true z26_
       obtain ⟨ad208, e208, hx208_0, hx208_1⟩ := at_T60 HR0.out x8_1 p208 q208
       obtain rfl : ad207 = ad208 := (by injection e208)
       replace hx208_0 := (HB.out.cell (World.block_lt_of_cell? w _ hx208_0)).trans hx208_0
       replace hx208_1 := (HB.out.cell (World.block_lt_of_cell? w _ hx208_1)).trans hx208_1
       replace p208 := eq_true p208
       replace q208 := eq_true q208
       go_wp2
       go_meet
       case rel => exact ⟨_, (decide (((rd_T60 l0 x8_1).f0) ≤ a2)), z25_, H', ⟨by have := HK1.out; first | omega | exact Nat.le_refl _⟩, ⟨by repeat (first | (with_reducible first | exact HB.out | apply below_alloc | apply pw_below_drewN | apply below_drew1) | exact HB.out)⟩⟩
      ·rw [if_neg c7] at H
       have c7b0 : decide (a1 ≤ ((rd_T60 l0 x8_1).f0)) = false := decide_eq_false c7
       clear c7
       have H' := Aside0.mk H
       clear H
       have p207 : 0 ≤ (x8_1 : Int) := of_decide_eq_true z26_
       have q207 : x8_1 < (l0.length : Int) := of_decide_eq_true z26_
       obtain ⟨ad207, e207, hx207_0, hx207_1⟩ := at_T60 HR0.out x8_1 p207 q207
       cases e207
       replace hx207_0 := (HB.out.cell (World.block_lt_of_cell? w _ hx207_0)).trans hx207_0
       replace hx207_1 := (HB.out.cell (World.block_lt_of_cell? w _ hx207_1)).trans hx207_1
       replace p207 := eq_true p207
       replace q207 := eq_true q207
       go_wp2
       go_meet
       case rel => exact ⟨_, (false), z25_, H', ⟨by have := HK1.out; first | omega | exact Nat.le_refl _⟩, ⟨by repeat (first | (with_reducible first | exact HB.out | apply below_alloc | apply pw_below_drewN | apply below_drew1) | exact HB.out)⟩⟩
     ·rw [if_neg c6] at H
      exact absurd H (by simp)
    case rest =>
     clear HC5
     try clear p2
     try clear q2
     try clear hx2
     try clear c3
     try clear c4
     try clear c4b0
     try clear c6
     try clear c6b0
     try clear c7
     try clear c7b0
     try clear hx207_0
     try clear hx207_1
     try clear hx208_0
     try clear hx208_1
     try clear p2
     try clear p207
     try clear p208
     try clear q207
     try clear q208
     obtain ⟨kq, x30_4, rfl, HA, HJ4, HB⟩ := hcut
     cases kq with
     | zero => exact absurd HA.out (by simp [metrolabref26_Within.j1])
     | succ kj4 =>
      have H := HA.out
      clear HA
      simp only [metrolabref26_Within.j1] at H
      by_cases c8 : x30_4 = true
      ·subst c8
       rw [if_pos rfl] at H
       obtain ⟨t209, A9, H⟩ := bindA H
       obtain ⟨t210, A10, H⟩ := bindA H
       have H' := Aside0.mk H
       clear H
       go_wp2_with (first | ((with_reducible refine gate_callee (f := 67) rfl ?_); refine goesL_ (some 34) rfl rfl Tryz.func67 (by kernel_rfl) rfl #[.slice A0 l0.length c0, .int .i64 x8_1] rfl z9_ ?_; (with_reducible refine (metrolabref26_Chance.calls kj4 _ _ l0 x8_1 t209 _ ?side1 ?side2 A9.out).mono ?_); (case side1 => repeat (first | exact (Kd.C_below HR0.out HB.out) | (with_reducible refine Kd.C_alloc ?_ _) | (with_reducible refine Kd.C_drewN ?_ _) | (with_reducible refine Kd.C_drew ?_))); (case side2 => exact HC0.out); rintro e w11 ⟨rfl, hb⟩; refine ⟨_, rfl, ?_⟩; replace HB := Aside0.mk (below_step z10_ hb); clear hb) | (refine gy (f := 66) rfl (some 35) rfl Tryz.func66 (metrolabref02_Plus.calls x7_1 t209 t210 _ A10.out) z10_ ?_; clear HB; intro w12 HB))
       go_roundg kj4
       case measure => have := HK1.out; have := HJ4.out; omega
       case rel => exact ⟨(t210), (wrap64 (x8_1 + 1)), z25_, z25_, H', ⟨by have := HK1.out; have := HJ4.out; omega⟩, ⟨by repeat (first | (with_reducible first | exact HB.out | apply below_alloc | apply pw_below_drewN | apply below_drew1) | exact HB.out)⟩⟩
      ·replace c8 := Bool.eq_false_iff.mpr c8
       subst c8
       rw [if_neg (show ¬ (false = true) by decide)] at H
       have H' := Aside0.mk H
       clear H
       go_wp2
       go_roundg kj4
       case measure => have := HK1.out; have := HJ4.out; omega
       case rel => exact ⟨(x7_1), (wrap64 (x8_1 + 1)), z25_, z25_, H', ⟨by have := HK1.out; have := HJ4.out; omega⟩, ⟨by repeat (first | (with_reducible first | exact HB.out | apply below_alloc | apply pw_below_drewN | apply below_drew1) | exact HB.out)⟩⟩
   ·rw [if_neg c4] at H
    have c4b0 : decide (x8_1 < (l0.length : Int)) = false := decide_eq_false c4
    clear c4
    obtain rfl := Option.some.inj H
    go_wp2
    go_ret
    exact ⟨z24_, z10_⟩
def metrolabref26_Probability.f (k : Nat) (l0 : List (S60)) (a1_0 : Int) (a1_1 : Int) : Option (ByteArray × Int) := (metrolabref26_Check.f k l0).bind fun t212 => (if t212 = 0 then (if a1_0 > a1_1 then (some ((⟨#[]⟩ : ByteArray), 9)) else ((metrolabref26_Within.f k l0 a1_0 a1_1).bind fun t213 => (some (t213, 0)))) else (some ((⟨#[]⟩ : ByteArray), t212)))
set_option maxHeartbeats 8000000 in
set_option maxRecDepth 100000 in
theorem metrolabref26_Probability.calls (k : Nat) (A0 : Option Addr) (c0 : Nat) (l0 : List (S60)) (a1_0 : Int) (a1_1 : Int) (r1 : ByteArray) (r2 : Int) (w : World) (hr0 : Kd.C k60 w A0 l0.length l0) (hc0 : l0.length ≤ c0) (h : metrolabref26_Probability.f k l0 a1_0 a1_1 = some (r1, r2)) :
  Calls Tryz.prog 11 #[.slice A0 l0.length c0, .agg #[.int .i64 a1_0, .int .i64 a1_1]] w fun e w' => e = .returned (.tuple #[.string r1, .int .i64 r2]) ∧ Below w.heap.size w w' := by
 have hu24 := Tryz.underlying24
 have HR0 := Aside0.mk hr0
 have HC0 := Aside0.mk hc0
 clear hr0 hc0
 have HB := Aside0.mk (Below.refl w.heap.size w)
 have H : ((metrolabref26_Check.f k l0).bind fun t212 => (if t212 = 0 then (if a1_0 > a1_1 then (some ((⟨#[]⟩ : ByteArray), 9)) else ((metrolabref26_Within.f k l0 a1_0 a1_1).bind fun t213 => (some (t213, 0)))) else (some ((⟨#[]⟩ : ByteArray), t212)))) = some (r1, r2) := h
 clear h
 obtain ⟨t212, A3, H⟩ := bindA H
 by_cases c4 : t212 = 0
 ·rw [if_pos c4] at H
  have c4b0 := beq_iff_eq.mpr c4
  have c4b1 := bne_eq_false_iff_eq.mpr c4
  clear c4
  by_cases c5 : a1_0 > a1_1
  ·rw [if_pos c5] at H
   have c5b0 : decide (a1_1 < a1_0) = true := decide_eq_true c5
   clear c5
   simp only [Option.some.injEq, Prod.mk.injEq] at H
   obtain ⟨rfl, rfl⟩ := H
   go_enter Tryz.func11, Tryz.ntmps11
   go_wp2_with (first | ((with_reducible refine gate_dst (N := 3) rfl ?_); refine box_event ?hg (N := 3) ?hd (cs := #[.int .i64 a1_0, .int .i64 a1_1]) (t := 24) ?hr ?_; (case hd => rfl); (case hg => rfl); (case hr => first | (go_simp; done) | (go_simp; rfl)); intro gb211 hg w6 hbox hb; have n0_ := Aside0.mk (below_step z10_ hb); have n1_ := Aside0.mk (hbox); have n2_ := Aside0.mk ((by rw [hg]; exact (below_size z10_) : w.heap.size ≤ gb211)); have n3_ := Aside0.mk ((by rw [hg]; exact (below_size z10_) : w.heap.size ≤ gb211)); clear HB; have HB := n0_; have BK211 := n1_; have GW211 := n2_; have GE211 := n3_; clear n0_ n1_ n2_ n3_; clear hb hbox hg) | ((with_reducible refine gate_callee (f := 21) rfl ?_); refine goesL_ (some 8) rfl rfl Tryz.func21 (by kernel_rfl) rfl #[.slice A0 l0.length c0] rfl z9_ ?_; (with_reducible refine (metrolabref26_Check.calls k _ _ l0 t212 _ ?side1 ?side2 A3.out).mono ?_); (case side1 => repeat (first | exact (Kd.C_below HR0.out HB.out) | (with_reducible refine Kd.C_alloc ?_ _) | (with_reducible refine Kd.C_drewN ?_ _) | (with_reducible refine Kd.C_drew ?_))); (case side2 => exact HC0.out); rintro e w7 ⟨rfl, hb⟩; refine ⟨_, rfl, ?_⟩; have n0_ := Aside0.mk (blk_below (g := gb211) (o := .cells #[.int .i64 a1_0, .int .i64 a1_1] 24 (0, 0)) (by (with_reducible repeat (first | refine blk_drewN ?_ _ | refine blk_drew ?_ | refine blk_alloc ?_ _)); exact BK211.out) hb); have n1_ := Aside0.mk (below_step z7_ hb); clear BK211; clear HB; have BK211 := n0_; have HB := n1_; clear n0_ n1_; (try clear hb); (try clear hb2); (try clear hk); (try clear hi); have hcz8_0 : w7.cell? ⟨gb211, 0, none⟩ = some (.int .i64 a1_0) := (blk_cell BK211.out 0).trans rfl; have hcz8_1 : w7.cell? ⟨gb211, 1, none⟩ = some (.int .i64 a1_1) := (blk_cell BK211.out 1).trans rfl; have hfz8_0 := blk_frozen BK211.out 0; have hfz8_1 := blk_frozen BK211.out 1))
   go_ret2
   exact ⟨z24_, by repeat (first | (with_reducible first | exact HB.out | apply below_alloc | apply pw_below_drewN | apply below_drew1 | refine Go.Proofs.YtkdpcgmnkifbbaaGreatDoorW.PrintWords.below_set ?_ GE211.out) | exact HB.out)⟩
  ·rw [if_neg c5] at H
   have c5b0 : decide (a1_1 < a1_0) = false := decide_eq_false c5
   clear c5
   obtain ⟨t213, A9, H⟩ := bindA H
   simp only [Option.some.injEq, Prod.mk.injEq] at H
   obtain ⟨rfl, rfl⟩ := H
   go_enter Tryz.func11, Tryz.ntmps11
   go_wp2_with (first | ((with_reducible refine gate_dst (N := 3) rfl ?_); refine box_event ?hg (N := 3) ?hd (cs := #[.int .i64 a1_0, .int .i64 a1_1]) (t := 24) ?hr ?_; (case hd => rfl); (case hg => rfl); (case hr => first | (go_simp; done) | (go_simp; rfl)); intro gb211 hg w10 hbox hb; have n0_ := Aside0.mk (below_step z10_ hb); have n1_ := Aside0.mk (hbox); have n2_ := Aside0.mk ((by rw [hg]; exact (below_size z10_) : w.heap.size ≤ gb211)); have n3_ := Aside0.mk ((by rw [hg]; exact (below_size z10_) : w.heap.size ≤ gb211)); clear HB; have HB := n0_; have BK211 := n1_; have GW211 := n2_; have GE211 := n3_; clear n0_ n1_ n2_ n3_; clear hb hbox hg) | ((with_reducible refine gate_callee (f := 21) rfl ?_); refine goesL_ (some 8) rfl rfl Tryz.func21 (by kernel_rfl) rfl #[.slice A0 l0.length c0] rfl z9_ ?_; (with_reducible refine (metrolabref26_Check.calls k _ _ l0 t212 _ ?side1 ?side2 A3.out).mono ?_); (case side1 => repeat (first | exact (Kd.C_below HR0.out HB.out) | (with_reducible refine Kd.C_alloc ?_ _) | (with_reducible refine Kd.C_drewN ?_ _) | (with_reducible refine Kd.C_drew ?_))); (case side2 => exact HC0.out); rintro e w11 ⟨rfl, hb⟩; refine ⟨_, rfl, ?_⟩; have n0_ := Aside0.mk (blk_below (g := gb211) (o := .cells #[.int .i64 a1_0, .int .i64 a1_1] 24 (0, 0)) (by (with_reducible repeat (first | refine blk_drewN ?_ _ | refine blk_drew ?_ | refine blk_alloc ?_ _)); exact BK211.out) hb); have n1_ := Aside0.mk (below_step z7_ hb); clear BK211; clear HB; have BK211 := n0_; have HB := n1_; clear n0_ n1_; (try clear hb); (try clear hb2); (try clear hk); (try clear hi); have hcz12_0 : w11.cell? ⟨gb211, 0, none⟩ = some (.int .i64 a1_0) := (blk_cell BK211.out 0).trans rfl; have hcz12_1 : w11.cell? ⟨gb211, 1, none⟩ = some (.int .i64 a1_1) := (blk_cell BK211.out 1).trans rfl; have hfz12_0 := blk_frozen BK211.out 0; have hfz12_1 := blk_frozen BK211.out 1) | ((with_reducible refine gate_callee (f := 35) rfl ?_); refine goesL_ (some 22) rfl rfl Tryz.func35 (by kernel_rfl) rfl #[.slice A0 l0.length c0, .int .i64 a1_0, .int .i64 a1_1] rfl z9_ ?_; (with_reducible refine (metrolabref26_Within.calls k _ _ l0 a1_0 a1_1 t213 _ ?side1 ?side2 A9.out).mono ?_); (case side1 => repeat (first | exact (Kd.C_below HR0.out HB.out) | (with_reducible refine Kd.C_alloc ?_ _) | (with_reducible refine Kd.C_drewN ?_ _) | (with_reducible refine Kd.C_drew ?_))); (case side2 => exact HC0.out); rintro e w13 ⟨rfl, hb⟩; refine ⟨_, rfl, ?_⟩; have n0_ := Aside0.mk (blk_below (g := gb211) (o := .cells #[.int .i64 a1_0, .int .i64 a1_1] 24 (0, 0)) (by (with_reducible repeat (first | refine blk_drewN ?_ _ | refine blk_drew ?_ | refine blk_alloc ?_ _)); exact BK211.out) hb); have n1_ := Aside0.mk (below_step z7_ hb); clear BK211; clear HB; have BK211 := n0_; have HB := n1_; clear n0_ n1_; (try clear hb); (try clear hb2); (try clear hk); (try clear hi)))
   go_ret2
   exact ⟨z24_, by repeat (first | (with_reducible first | exact HB.out | apply below_alloc | apply pw_below_drewN | apply below_drew1 | refine Go.Proofs.YtkdpcgmnkifbbaaGreatDoorW.PrintWords.below_set ?_ GE211.out) | exact HB.out)⟩
 ·rw [if_neg c4] at H
  have c4b0 := beq_eq_false_iff_ne.mpr c4
  have c4b1 := bne_iff_ne.mpr c4
  simp only [Option.some.injEq, Prod.mk.injEq] at H
  obtain ⟨rfl, rfl⟩ := H
  go_enter Tryz.func11, Tryz.ntmps11
  go_wp2_with (first | ((with_reducible refine gate_dst (N := 3) rfl ?_); refine box_event ?hg (N := 3) ?hd (cs := #[.int .i64 a1_0, .int .i64 a1_1]) (t := 24) ?hr ?_; (case hd => rfl); (case hg => rfl); (case hr => first | (go_simp; done) | (go_simp; rfl)); intro gb211 hg w14 hbox hb; have n0_ := Aside0.mk (below_step z10_ hb); have n1_ := Aside0.mk (hbox); have n2_ := Aside0.mk ((by rw [hg]; exact (below_size z10_) : w.heap.size ≤ gb211)); have n3_ := Aside0.mk ((by rw [hg]; exact (below_size z10_) : w.heap.size ≤ gb211)); clear HB; have HB := n0_; have BK211 := n1_; have GW211 := n2_; have GE211 := n3_; clear n0_ n1_ n2_ n3_; clear hb hbox hg) | ((with_reducible refine gate_callee (f := 21) rfl ?_); refine goesL_ (some 8) rfl rfl Tryz.func21 (by kernel_rfl) rfl #[.slice A0 l0.length c0] rfl z9_ ?_; (with_reducible refine (metrolabref26_Check.calls k _ _ l0 t212 _ ?side1 ?side2 A3.out).mono ?_); (case side1 => repeat (first | exact (Kd.C_below HR0.out HB.out) | (with_reducible refine Kd.C_alloc ?_ _) | (with_reducible refine Kd.C_drewN ?_ _) | (with_reducible refine Kd.C_drew ?_))); (case side2 => exact HC0.out); rintro e w15 ⟨rfl, hb⟩; refine ⟨_, rfl, ?_⟩; have n0_ := Aside0.mk (blk_below (g := gb211) (o := .cells #[.int .i64 a1_0, .int .i64 a1_1] 24 (0, 0)) (by (with_reducible repeat (first | refine blk_drewN ?_ _ | refine blk_drew ?_ | refine blk_alloc ?_ _)); exact BK211.out) hb); have n1_ := Aside0.mk (below_step z7_ hb); clear BK211; clear HB; have BK211 := n0_; have HB := n1_; clear n0_ n1_; (try clear hb); (try clear hb2); (try clear hk); (try clear hi)))
  go_ret2
  exact ⟨z24_, by repeat (first | (with_reducible first | exact HB.out | apply below_alloc | apply pw_below_drewN | apply below_drew1 | refine Go.Proofs.YtkdpcgmnkifbbaaGreatDoorW.PrintWords.below_set ?_ GE211.out) | exact HB.out)⟩
def metrolabref26_Unit.f (a0 : ByteArray) : Option (Int) := (metrolabref02_Check.f a0).bind fun t214 => (if t214 = 0 then ((metrolabref02_Signum.f a0).bind fun t215 => (if t215 < 0 then (some 2) else ((metrolabref02_Order.f a0 (⟨#[49]⟩ : ByteArray)).bind fun t216 => (if t216 > 0 then (some 2) else (some 0))))) else (some t214))
set_option maxHeartbeats 8000000 in
set_option maxRecDepth 100000 in
theorem metrolabref26_Unit.calls (a0 : ByteArray) (r : Int) (w : World) (h : metrolabref26_Unit.f a0 = some r) :
  Calls Tryz.prog 38 #[.string a0] w fun e w' => e = .returned (.int .i64 r) ∧ Below w.heap.size w w' := by
 have HB := Aside0.mk (Below.refl w.heap.size w)
 have H : ((metrolabref02_Check.f a0).bind fun t214 => (if t214 = 0 then ((metrolabref02_Signum.f a0).bind fun t215 => (if t215 < 0 then (some 2) else ((metrolabref02_Order.f a0 (⟨#[49]⟩ : ByteArray)).bind fun t216 => (if t216 > 0 then (some 2) else (some 0))))) else (some t214))) = some r := h
 clear h
 obtain ⟨t214, A2, H⟩ := bindA H
 by_cases c3 : t214 = 0
 ·rw [if_pos c3] at H
  have c3b0 := beq_iff_eq.mpr c3
  have c3b1 := bne_eq_false_iff_eq.mpr c3
  clear c3
  obtain ⟨t215, A4, H⟩ := bindA H
  by_cases c5 : t215 < 0
  ·rw [if_pos c5] at H
   have c5b0 : decide (t215 < 0) = true := decide_eq_true c5
   clear c5
   obtain rfl := Option.some.inj H
   go_enter Tryz.func38, Tryz.ntmps38
   go_wp2_with (first | (refine gy (f := 72) rfl (some 5) rfl Tryz.func72 (metrolabref02_Check.calls a0 t214 _ A2.out) z10_ ?_; clear HB; intro w6 HB) | (refine gy (f := 73) rfl (some 10) rfl Tryz.func73 (metrolabref02_Signum.calls a0 t215 _ A4.out) z10_ ?_; clear HB; intro w7 HB))
   go_ret
   exact ⟨z24_, z10_⟩
  ·rw [if_neg c5] at H
   have c5b0 : decide (t215 < 0) = false := decide_eq_false c5
   clear c5
   obtain ⟨t216, A8, H⟩ := bindA H
   by_cases c9 : t216 > 0
   ·rw [if_pos c9] at H
    have c9b0 : decide (0 < t216) = true := decide_eq_true c9
    clear c9
    obtain rfl := Option.some.inj H
    go_enter Tryz.func38, Tryz.ntmps38
    go_wp2_with (first | (refine gy (f := 72) rfl (some 5) rfl Tryz.func72 (metrolabref02_Check.calls a0 t214 _ A2.out) z10_ ?_; clear HB; intro w10 HB) | (refine gy (f := 73) rfl (some 10) rfl Tryz.func73 (metrolabref02_Signum.calls a0 t215 _ A4.out) z10_ ?_; clear HB; intro w11 HB) | (go_at_call 39; (with_reducible refine (metrolabref02_Order.calls a0 (⟨#[49]⟩ : ByteArray) t216 _ A8.out).mono ?_); rintro e w12 ⟨rfl, hb⟩; replace HB := Aside0.mk (below_step z10_ hb); clear hb))
    go_ret
    exact ⟨z24_, z10_⟩
   ·rw [if_neg c9] at H
    have c9b0 : decide (0 < t216) = false := decide_eq_false c9
    clear c9
    obtain rfl := Option.some.inj H
    go_enter Tryz.func38, Tryz.ntmps38
    go_wp2_with (first | (refine gy (f := 72) rfl (some 5) rfl Tryz.func72 (metrolabref02_Check.calls a0 t214 _ A2.out) z10_ ?_; clear HB; intro w13 HB) | (refine gy (f := 73) rfl (some 10) rfl Tryz.func73 (metrolabref02_Signum.calls a0 t215 _ A4.out) z10_ ?_; clear HB; intro w14 HB) | (go_at_call 39; (with_reducible refine (metrolabref02_Order.calls a0 (⟨#[49]⟩ : ByteArray) t216 _ A8.out).mono ?_); rintro e w15 ⟨rfl, hb⟩; replace HB := Aside0.mk (below_step z10_ hb); clear hb))
    go_ret
    exact ⟨z24_, z10_⟩
 ·rw [if_neg c3] at H
  have c3b0 := beq_eq_false_iff_ne.mpr c3
  have c3b1 := bne_iff_ne.mpr c3
  obtain rfl := Option.some.inj H
  go_enter Tryz.func38, Tryz.ntmps38
  go_wp2_with (first | (refine gy (f := 72) rfl (some 5) rfl Tryz.func72 (metrolabref02_Check.calls a0 t214 _ A2.out) z10_ ?_; clear HB; intro w16 HB))
  go_ret
  exact ⟨z24_, z10_⟩
def metrolabref26_Quantile.l0 : Nat → List (S60) → ByteArray → Int → Option (Int × Int)
 | 0, _, _, _ => none
 | k + 1, x0, x1, x8 => if x8 < (x0.length : Int) then (if 0 < (x0.length : Int) then (if 0 ≤ x8 then ((metrolabref26_Within.f k x0 ((rd_T60 x0 0).f0) ((rd_T60 x0 x8).f0)).bind fun t221 => ((metrolabref02_Order.f t221 x1).bind fun t222 => (if t222 ≥ 0 then (some ((rd_T60 x0 x8).f0, 0)) else (metrolabref26_Quantile.l0 k x0 x1 (wrap64 (x8 + 1)))))) else (none)) else (none)) else (some (0, 0))
def metrolabref26_Quantile.f (k : Nat) (l0 : List (S60)) (a1 : ByteArray) : Option (Int × Int) := (metrolabref26_Check.f k l0).bind fun t217 => (if t217 = 0 then ((metrolabref26_Unit.f a1).bind fun t218 => (if t218 = 0 then (metrolabref26_Quantile.l0 k l0 a1 0) else (some (0, t218)))) else (some (0, t217)))
def metrolabref26_Quantile.T10 : Bool × List (List Nat × List Nat) := (true, [([], []), ([], []), ([1], [1]), ([2], [2]), ([3], [3]), ([], []), ([], []), ([5, 6], [5, 6]), ([7], [7]), ([8], [8]), ([0, 4, 9], [0, 4, 9]), ([], []), ([10, 11, 10], [10, 11]), ([12], [12])])
def metrolabref26_Quantile.B10 : List Nat := [0, 0, 2, 6, 14, 0, 0, 96, 224, 480, 1023, 0, 4095, 8191]
theorem metrolabref26_Quantile.tab10 : rtab .any (opsOf Tryz.f13 10) = metrolabref26_Quantile.T10 := by kernel_rfl
theorem metrolabref26_Quantile.bits10 : waitsOk metrolabref26_Quantile.T10.2 metrolabref26_Quantile.B10 = true := by kernel_rfl
set_option maxHeartbeats 8000000 in
set_option maxRecDepth 100000 in
theorem metrolabref26_Quantile.calls (k : Nat) (A0 : Option Addr) (c0 : Nat) (l0 : List (S60)) (a1 : ByteArray) (r1 : Int) (r2 : Int) (w : World) (hr0 : Kd.C k60 w A0 l0.length l0) (hc0 : l0.length ≤ c0) (h : metrolabref26_Quantile.f k l0 a1 = some (r1, r2)) :
  Calls Tryz.prog 13 #[.slice A0 l0.length c0, .string a1] w fun e w' => e = .returned (.tuple #[.int .i64 r1, .int .i64 r2]) ∧ Below w.heap.size w w' := by
 have HR0 := Aside0.mk hr0
 have HC0 := Aside0.mk hc0
 clear hr0 hc0
 have HB := Aside0.mk (Below.refl w.heap.size w)
 have H : ((metrolabref26_Check.f k l0).bind fun t217 => (if t217 = 0 then ((metrolabref26_Unit.f a1).bind fun t218 => (if t218 = 0 then (metrolabref26_Quantile.l0 k l0 a1 0) else (some (0, t218)))) else (some (0, t217)))) = some (r1, r2) := h
 clear h
 obtain ⟨t217, A3, H⟩ := bindA H
 by_cases c4 : t217 = 0
 ·rw [if_pos c4] at H
  have c4b0 := beq_iff_eq.mpr c4
  have c4b1 := bne_eq_false_iff_eq.mpr c4
  clear c4
  obtain ⟨t218, A5, H⟩ := bindA H
  by_cases c6 : t218 = 0
  ·rw [if_pos c6] at H
   have c6b0 := beq_iff_eq.mpr c6
   have c6b1 := bne_eq_false_iff_eq.mpr c6
   clear c6
   have H' := Aside0.mk H
   clear H
   go_enter Tryz.func13, Tryz.ntmps13
   go_wp2_with (first | ((with_reducible refine gate_callee (f := 21) rfl ?_); refine goesL_ (some 10) rfl rfl Tryz.func21 (by kernel_rfl) rfl #[.slice A0 l0.length c0] rfl z9_ ?_; (with_reducible refine (metrolabref26_Check.calls k _ _ l0 t217 _ ?side1 ?side2 A3.out).mono ?_); (case side1 => repeat (first | exact HR0.out | (with_reducible refine Kd.C_alloc ?_ _) | (with_reducible refine Kd.C_drewN ?_ _) | (with_reducible refine Kd.C_drew ?_))); (case side2 => exact HC0.out); rintro e w7 ⟨rfl, hb⟩; refine ⟨_, rfl, ?_⟩; replace HB := Aside0.mk (below_step z10_ hb); clear hb) | (refine gy (f := 38) rfl (some 15) rfl Tryz.func38 (metrolabref26_Unit.calls a1 t218 _ A5.out) z10_ ?_; clear HB; intro w8 HB))
   go_loopg [8] k (fun kq v8 w' => ∃ (x8_1 : Int), v8 = .int .i64 x8_1 ∧ Aside0 (metrolabref26_Quantile.l0 kq l0 a1 x8_1 = some (r1, r2)) ∧ Aside0 (kq ≤ k) ∧ Aside0 (Below w.heap.size w w'))
   case atStart => exact ⟨(0), z25_, H', ⟨Nat.le_refl _⟩, ⟨by repeat (first | (with_reducible first | exact HB.out | apply below_alloc | apply pw_below_drewN | apply below_drew1) | exact HB.out)⟩⟩
   case round =>
    clear H'
    try clear c1
    try clear c2
    try clear p2
    try clear c3
    try clear c4
    try clear c4b0
    try clear c4b1
    try clear c6
    try clear c6b0
    try clear c6b1
    obtain ⟨x8_1, rfl, HA, HK1, HB⟩ := hrel
    cases gk with
    | zero => exact absurd HA.out (by simp [metrolabref26_Quantile.l0])
    | succ k1 =>
     have H := HA.out
     clear HA
     simp only [metrolabref26_Quantile.l0] at H
     by_cases c9 : x8_1 < (l0.length : Int)
     ·rw [if_pos c9] at H
      have c9b0 : decide (x8_1 < (l0.length : Int)) = true := decide_eq_true c9
      clear c9
      by_cases c10 : 0 < (l0.length : Int)
      ·rw [if_pos c10] at H
       have c10b0 : decide (0 < (l0.length : Int)) = true := decide_eq_true c10
       have c10b1 : decide (0 < l0.length) = true := decide_eq_true (by omega)
       clear c10
       by_cases c11 : 0 ≤ x8_1
       ·rw [if_pos c11] at H
        have c11b0 : decide (0 ≤ x8_1) = true := decide_eq_true c11
        clear c11
        obtain ⟨t221, A12, H⟩ := bindA H
        obtain ⟨t222, A13, H⟩ := bindA H
        by_cases c14 : t222 ≥ 0
        ·rw [if_pos c14] at H
         have c14b0 : decide (0 ≤ t222) = true := decide_eq_true c14
         clear c14
         simp only [Option.some.injEq, Prod.mk.injEq] at H
         obtain ⟨rfl, rfl⟩ := H
         try go_wp2
         have n0_ := Aside0.mk (below_drew1 HB.out)
         clear HB
         have HB := n0_
         clear n0_
         have p219 : 0 ≤ (0 : Int) := (by omega)
         have q219 : 0 < (l0.length : Int) := of_decide_eq_true z26_
         obtain ⟨ad219, e219, hx219_0, hx219_1⟩ := at_T60 HR0.out 0 p219 q219
         have hw219_1 := hx219_1
         (try rw [show ((0 : Int)).toNat = 0 from rfl] at hw219_1)
         (try rw [show 0 * 2 = 0 from rfl] at hw219_1)
         (try rw [Addr.add_zero'] at hw219_1)
         have hw219_0 := hx219_0
         (try rw [show ((0 : Int)).toNat = 0 from rfl] at hw219_0)
         (try rw [show 0 * 2 = 0 from rfl] at hw219_0)
         (try rw [Addr.add_zero'] at hw219_0)
         cases e219
         have qi219 : (0 < l0.length) = True := eq_true (by omega)
         (try rw [show ((0 : Int)).toNat = 0 from rfl] at hx219_0)
         (try rw [show 0 * 2 = 0 from rfl] at hx219_0)
         (try rw [Addr.add_zero'] at hx219_0)
         (try rw [show ((0 : Int)).toNat = 0 from rfl] at hx219_1)
         (try rw [show 0 * 2 = 0 from rfl] at hx219_1)
         (try rw [Addr.add_zero'] at hx219_1)
         replace hx219_0 := (HB.out.cell (World.block_lt_of_cell? w _ hx219_0)).trans hx219_0
         replace hx219_1 := (HB.out.cell (World.block_lt_of_cell? w _ hx219_1)).trans hx219_1
         replace p219 := eq_true p219
         replace q219 := eq_true q219
         have p220 : 0 ≤ (x8_1 : Int) := of_decide_eq_true z26_
         have q220 : x8_1 < (l0.length : Int) := of_decide_eq_true z26_
         obtain ⟨ad220, e220, hx220_0, hx220_1⟩ := at_T60 HR0.out x8_1 p220 q220
         have hw220_1 := hx220_1
         have hw220_0 := hx220_0
         obtain rfl : ad219 = ad220 := (by injection e220)
         replace hx220_0 := (HB.out.cell (World.block_lt_of_cell? w _ hx220_0)).trans hx220_0
         replace hx220_1 := (HB.out.cell (World.block_lt_of_cell? w _ hx220_1)).trans hx220_1
         replace p220 := eq_true p220
         replace q220 := eq_true q220
         refine start_ (n := 14) (S := fun w' => w'.cell? ad219 = some (.int .i64 ((rd_T60 l0 0).f0)) ∧ w'.cell? ⟨ad219.block, ad219.off + 1, none⟩ = some (.string ((rd_T60 l0 0).f1)) ∧ w'.cell? (ad219.add ((x8_1).toNat * 2)) = some (.int .i64 ((rd_T60 l0 x8_1).f0)) ∧ w'.cell? ⟨(ad219.add ((x8_1).toNat * 2)).block, (ad219.add ((x8_1).toNat * 2)).off + 1, none⟩ = some (.string ((rd_T60 l0 x8_1).f1))) (ds := []) #[false, false, false, false, false, false, false, false, false, false, false, false, false, false] (by kernel_rfl) rfl rfl ⟨((HB.out.cell (World.block_lt_of_cell? w _ hw219_0)).trans hw219_0), ((HB.out.cell (World.block_lt_of_cell? w _ hw219_1)).trans hw219_1), ((HB.out.cell (World.block_lt_of_cell? w _ hw220_0)).trans hw220_0), ((HB.out.cell (World.block_lt_of_cell? w _ hw220_1)).trans hw220_1)⟩ (fun hHeld => ?_); refine with_tabW metrolabref26_Quantile.tab10 metrolabref26_Quantile.bits10 (fun HT_ HW_ => ?_)
         generalize wr.drew = w15 at HB hx219_0 hx219_1 hx220_0 hx220_1 hHeld ⊢
         refine pure_ (i := 0) (N := some 25) (v := ?_) (a' := ?_) #[true, false, false, false, false, false, false, false, false, false, false, false, false, false] rfl rfl (any_of HT_.out (by kernel_rfl)) (fun _ _ _ h => h) (Or.inl ⟨by rfl, ?_⟩) ?_ ?_
         rotate_left
         ·intro w'
          go_simp
          with_reducible rfl
         rotate_left
         ·simp only [Act.put, List.setIfInBounds_toArray, List.set_cons_zero, List.set_cons_succ, i64_w, i32_w]
          rfl
         refine pure_ (i := 1) (N := some 26) (v := ?_) (a' := ?_) #[true, true, false, false, false, false, false, false, false, false, false, false, false, false] rfl rfl (any_of HT_.out (by kernel_rfl)) (fun _ _ _ h => h) (Or.inl ⟨by rfl, ?_⟩) ?_ ?_
         rotate_left
         ·intro w'
          go_simp
          with_reducible rfl
         rotate_left
         ·simp only [Act.put, List.setIfInBounds_toArray, List.set_cons_zero, List.set_cons_succ, i64_w, i32_w]
          rfl
         refine pure_ (i := 2) (N := some 27) (v := ?_) (a' := ?_) #[true, true, true, false, false, false, false, false, false, false, false, false, false, false] rfl rfl (any_of HT_.out (by kernel_rfl)) (fun _ _ _ h => h) (Or.inl ⟨by rfl, ?_⟩) ?_ ?_
         rotate_left
         ·intro w'
          go_simp
          with_reducible rfl
         rotate_left
         ·simp only [Act.put, List.setIfInBounds_toArray, List.set_cons_zero, List.set_cons_succ, i64_w, i32_w]
          rfl
         refine pure_ (i := 3) (N := some 28) (v := ?_) (a' := ?_) #[true, true, true, true, false, false, false, false, false, false, false, false, false, false] rfl rfl (any_of HT_.out (by kernel_rfl)) (fun _ _ _ h => h) (Or.inl ⟨by rfl, ?_⟩) ?_ ?_
         rotate_left
         ·intro w'
          go_simp
          with_reducible rfl
         rotate_left
         ·simp only [Act.put, List.setIfInBounds_toArray, List.set_cons_zero, List.set_cons_succ, i64_w, i32_w]
          rfl
         refine pure_ (i := 5) (N := some 30) (v := ?_) (a' := ?_) #[true, true, true, true, false, true, false, false, false, false, false, false, false, false] rfl rfl (any_of HT_.out (by kernel_rfl)) (fun _ _ _ h => h) (Or.inl ⟨by rfl, ?_⟩) ?_ ?_
         rotate_left
         ·intro w'
          go_simp
          with_reducible rfl
         rotate_left
         ·simp only [Act.put, List.setIfInBounds_toArray, List.set_cons_zero, List.set_cons_succ, i64_w, i32_w]
          rfl
         refine pure_ (i := 6) (N := some 31) (v := ?_) (a' := ?_) #[true, true, true, true, false, true, true, false, false, false, false, false, false, false] rfl rfl (any_of HT_.out (by kernel_rfl)) (fun _ _ _ h => h) (Or.inl ⟨by rfl, ?_⟩) ?_ ?_
         rotate_left
         ·intro w'
          go_simp
          with_reducible rfl
         rotate_left
         ·simp only [Act.put, List.setIfInBounds_toArray, List.set_cons_zero, List.set_cons_succ, i64_w, i32_w]
          rfl
         refine pure_ (i := 7) (N := some 32) (v := ?_) (a' := ?_) #[true, true, true, true, false, true, true, true, false, false, false, false, false, false] rfl rfl (any_of HT_.out (by kernel_rfl)) (fun _ _ _ h => h) (Or.inl ⟨by rfl, ?_⟩) ?_ ?_
         rotate_left
         ·intro w'
          go_simp
          with_reducible rfl
         rotate_left
         ·simp only [Act.put, List.setIfInBounds_toArray, List.set_cons_zero, List.set_cons_succ, i64_w, i32_w]
          rfl
         refine pure_ (i := 8) (N := some 33) (v := ?_) (a' := ?_) #[true, true, true, true, false, true, true, true, true, false, false, false, false, false] rfl rfl (any_of HT_.out (by kernel_rfl)) (fun _ _ _ h => h) (Or.inl ⟨by rfl, ?_⟩) ?_ ?_
         rotate_left
         ·intro w'
          go_simp
          with_reducible rfl
         rotate_left
         ·simp only [Act.put, List.setIfInBounds_toArray, List.set_cons_zero, List.set_cons_succ, i64_w, i32_w]
          rfl
         refine pure_ (i := 11) (N := some 36) (v := ?_) (a' := ?_) #[true, true, true, true, false, true, true, true, true, false, false, true, false, false] rfl rfl (any_of HT_.out (by kernel_rfl)) (fun _ _ _ h => h) (Or.inl ⟨by rfl, ?_⟩) ?_ ?_
         rotate_left
         ·intro w'
          go_simp
          with_reducible rfl
         rotate_left
         ·simp only [Act.put, List.setIfInBounds_toArray, List.set_cons_zero, List.set_cons_succ, i64_w, i32_w]
          rfl
         refine take_ (i := 4) (N := some 29) (v := ?_) (a' := ?_) #[true, true, true, true, true, true, true, true, true, false, false, true, false, false] rfl rfl (take_ofW HT_.out HW_.out (by kernel_rfl)) (fun _ _ _ h => h) (Or.inl ⟨by rfl, ?_⟩) hHeld ?_ ?_
         rotate_left
         ·rintro w' ⟨s0, s1, s2, s3⟩
          go_simp
          with_reducible rfl
         rotate_left
         ·simp only [Act.put, List.setIfInBounds_toArray, List.set_cons_zero, List.set_cons_succ, i64_w, i32_w]
          rfl
         refine take_ (i := 9) (N := some 34) (v := ?_) (a' := ?_) #[true, true, true, true, true, true, true, true, true, true, false, true, false, false] rfl rfl (take_ofW HT_.out HW_.out (by kernel_rfl)) (fun _ _ _ h => h) (Or.inl ⟨by rfl, ?_⟩) hHeld ?_ ?_
         rotate_left
         ·rintro w' ⟨s0, s1, s2, s3⟩
          go_simp
          with_reducible rfl
         rotate_left
         ·simp only [Act.put, List.setIfInBounds_toArray, List.set_cons_zero, List.set_cons_succ, i64_w, i32_w]
          rfl
         refine one_ (i := 10) (N := some 35) #[true, true, true, true, true, true, true, true, true, true, true, true, false, false] rfl rfl (one_of HT_.out (by kernel_rfl)) (by decide) (fun K hK => ?_)
         refine goes_ Tryz.func35 (by kernel_rfl) rfl #[.slice (some ad219) l0.length c0, .int .i64 ((rd_T60 l0 0).f0), .int .i64 ((rd_T60 l0 x8_1).f0)] (by rfl) rfl rfl z9_ ?_
         with_reducible refine (metrolabref26_Within.calls k1 _ _ l0 ((rd_T60 l0 0).f0) ((rd_T60 l0 x8_1).f0) t221 _ ?side1 ?side2 A12.out).mono ?_
         (case side1 => repeat (first | exact (Kd.C_below HR0.out HB.out) | (with_reducible refine Kd.C_alloc ?_ _) | (with_reducible refine Kd.C_drewN ?_ _) | (with_reducible refine Kd.C_drew ?_)))
         (case side2 => exact HC0.out)
         rintro e w16 ⟨rfl, hb⟩
         refine ⟨_, rfl, ?_⟩
         have n0_ := Aside0.mk (below_step z10_ hb)
         clear HB
         have HB := n0_
         clear n0_
         (try clear hb)
         (try clear hb2)
         (try clear hk)
         (try clear hi)
         refine hK.out _ _ ⟨((HB.out.cell (World.block_lt_of_cell? w _ hw219_0)).trans hw219_0), ((HB.out.cell (World.block_lt_of_cell? w _ hw219_1)).trans hw219_1), ((HB.out.cell (World.block_lt_of_cell? w _ hw220_0)).trans hw220_0), ((HB.out.cell (World.block_lt_of_cell? w _ hw220_1)).trans hw220_1)⟩ (fun hHeld => ?_)
         clear hK K
         refine norm_ (a' := ?_) ?_ ?_
         rotate_left
         ·show Act.put _ (some 35) _ = _
          simp only [Act.put, List.setIfInBounds_toArray, List.set_cons_zero, List.set_cons_succ, i64_w, i32_w]
          rfl
         refine one_ (i := 12) (N := some 37) #[true, true, true, true, true, true, true, true, true, true, true, true, true, false] rfl rfl (one_of HT_.out (by kernel_rfl)) (by decide) (fun K hK => ?_)
         refine goes_ Tryz.func39 (by kernel_rfl) rfl #[.string t221, .string a1] (by rfl) rfl rfl z9_ ?_
         with_reducible refine (metrolabref02_Order.calls t221 a1 t222 _ A13.out).mono ?_
         rintro e w17 ⟨rfl, hb⟩
         refine ⟨_, rfl, ?_⟩
         have n0_ := Aside0.mk (below_step z10_ hb)
         clear HB
         have HB := n0_
         clear n0_
         (try clear hb)
         (try clear hb2)
         (try clear hk)
         (try clear hi)
         refine hK.out _ _ ⟨((HB.out.cell (World.block_lt_of_cell? w _ hw219_0)).trans hw219_0), ((HB.out.cell (World.block_lt_of_cell? w _ hw219_1)).trans hw219_1), ((HB.out.cell (World.block_lt_of_cell? w _ hw220_0)).trans hw220_0), ((HB.out.cell (World.block_lt_of_cell? w _ hw220_1)).trans hw220_1)⟩ (fun hHeld => ?_)
         clear hK K
         refine norm_ (a' := ?_) ?_ ?_
         rotate_left
         ·show Act.put _ (some 37) _ = _
          simp only [Act.put, List.setIfInBounds_toArray, List.set_cons_zero, List.set_cons_succ, i64_w, i32_w]
          rfl
         refine pure_ (i := 13) (N := some 38) (v := ?_) (a' := ?_) #[true, true, true, true, true, true, true, true, true, true, true, true, true, true] rfl rfl (any_of HT_.out (by kernel_rfl)) (fun _ _ _ h => h) (Or.inl ⟨by rfl, ?_⟩) ?_ ?_
         rotate_left
         ·intro w'
          go_simp
          with_reducible rfl
         rotate_left
         ·simp only [Act.put, List.setIfInBounds_toArray, List.set_cons_zero, List.set_cons_succ, i64_w, i32_w]
          rfl
         refine done_ (done_of HT_.out (by kernel_rfl)) ?_
         have p223 : 0 ≤ (x8_1 : Int) := of_decide_eq_true z26_
         have q223 : x8_1 < (l0.length : Int) := of_decide_eq_true z26_
         obtain ⟨ad223, e223, hx223_0, hx223_1⟩ := at_T60 HR0.out x8_1 p223 q223
         obtain rfl : ad219 = ad223 := (by injection e223)
         replace hx223_0 := (HB.out.cell (World.block_lt_of_cell? w _ hx223_0)).trans hx223_0
         replace hx223_1 := (HB.out.cell (World.block_lt_of_cell? w _ hx223_1)).trans hx223_1
         replace p223 := eq_true p223
         replace q223 := eq_true q223
         try go_wp2
         go_ret2
         exact ⟨z24_, z10_⟩
        ·rw [if_neg c14] at H
         have c14b0 : decide (0 ≤ t222) = false := decide_eq_false c14
         clear c14
         have H' := Aside0.mk H
         clear H
         try go_wp2
         have n0_ := Aside0.mk (below_drew1 HB.out)
         clear HB
         have HB := n0_
         clear n0_
         have p219 : 0 ≤ (0 : Int) := (by omega)
         have q219 : 0 < (l0.length : Int) := of_decide_eq_true z26_
         obtain ⟨ad219, e219, hx219_0, hx219_1⟩ := at_T60 HR0.out 0 p219 q219
         have hw219_1 := hx219_1
         (try rw [show ((0 : Int)).toNat = 0 from rfl] at hw219_1)
         (try rw [show 0 * 2 = 0 from rfl] at hw219_1)
         (try rw [Addr.add_zero'] at hw219_1)
         have hw219_0 := hx219_0
         (try rw [show ((0 : Int)).toNat = 0 from rfl] at hw219_0)
         (try rw [show 0 * 2 = 0 from rfl] at hw219_0)
         (try rw [Addr.add_zero'] at hw219_0)
         cases e219
         have qi219 : (0 < l0.length) = True := eq_true (by omega)
         (try rw [show ((0 : Int)).toNat = 0 from rfl] at hx219_0)
         (try rw [show 0 * 2 = 0 from rfl] at hx219_0)
         (try rw [Addr.add_zero'] at hx219_0)
         (try rw [show ((0 : Int)).toNat = 0 from rfl] at hx219_1)
         (try rw [show 0 * 2 = 0 from rfl] at hx219_1)
         (try rw [Addr.add_zero'] at hx219_1)
         replace hx219_0 := (HB.out.cell (World.block_lt_of_cell? w _ hx219_0)).trans hx219_0
         replace hx219_1 := (HB.out.cell (World.block_lt_of_cell? w _ hx219_1)).trans hx219_1
         replace p219 := eq_true p219
         replace q219 := eq_true q219
         have p220 : 0 ≤ (x8_1 : Int) := of_decide_eq_true z26_
         have q220 : x8_1 < (l0.length : Int) := of_decide_eq_true z26_
         obtain ⟨ad220, e220, hx220_0, hx220_1⟩ := at_T60 HR0.out x8_1 p220 q220
         have hw220_1 := hx220_1
         have hw220_0 := hx220_0
         obtain rfl : ad219 = ad220 := (by injection e220)
         replace hx220_0 := (HB.out.cell (World.block_lt_of_cell? w _ hx220_0)).trans hx220_0
         replace hx220_1 := (HB.out.cell (World.block_lt_of_cell? w _ hx220_1)).trans hx220_1
         replace p220 := eq_true p220
         replace q220 := eq_true q220
         refine start_ (n := 14) (S := fun w' => w'.cell? ad219 = some (.int .i64 ((rd_T60 l0 0).f0)) ∧ w'.cell? ⟨ad219.block, ad219.off + 1, none⟩ = some (.string ((rd_T60 l0 0).f1)) ∧ w'.cell? (ad219.add ((x8_1).toNat * 2)) = some (.int .i64 ((rd_T60 l0 x8_1).f0)) ∧ w'.cell? ⟨(ad219.add ((x8_1).toNat * 2)).block, (ad219.add ((x8_1).toNat * 2)).off + 1, none⟩ = some (.string ((rd_T60 l0 x8_1).f1))) (ds := []) #[false, false, false, false, false, false, false, false, false, false, false, false, false, false] (by kernel_rfl) rfl rfl ⟨((HB.out.cell (World.block_lt_of_cell? w _ hw219_0)).trans hw219_0), ((HB.out.cell (World.block_lt_of_cell? w _ hw219_1)).trans hw219_1), ((HB.out.cell (World.block_lt_of_cell? w _ hw220_0)).trans hw220_0), ((HB.out.cell (World.block_lt_of_cell? w _ hw220_1)).trans hw220_1)⟩ (fun hHeld => ?_); refine with_tabW metrolabref26_Quantile.tab10 metrolabref26_Quantile.bits10 (fun HT_ HW_ => ?_)
         generalize wr.drew = w18 at HB hx219_0 hx219_1 hx220_0 hx220_1 hHeld ⊢
         refine pure_ (i := 0) (N := some 25) (v := ?_) (a' := ?_) #[true, false, false, false, false, false, false, false, false, false, false, false, false, false] rfl rfl (any_of HT_.out (by kernel_rfl)) (fun _ _ _ h => h) (Or.inl ⟨by rfl, ?_⟩) ?_ ?_
         rotate_left
         ·intro w'
          go_simp
          with_reducible rfl
         rotate_left
         ·simp only [Act.put, List.setIfInBounds_toArray, List.set_cons_zero, List.set_cons_succ, i64_w, i32_w]
          rfl
         refine pure_ (i := 1) (N := some 26) (v := ?_) (a' := ?_) #[true, true, false, false, false, false, false, false, false, false, false, false, false, false] rfl rfl (any_of HT_.out (by kernel_rfl)) (fun _ _ _ h => h) (Or.inl ⟨by rfl, ?_⟩) ?_ ?_
         rotate_left
         ·intro w'
          go_simp
          with_reducible rfl
         rotate_left
         ·simp only [Act.put, List.setIfInBounds_toArray, List.set_cons_zero, List.set_cons_succ, i64_w, i32_w]
          rfl
         refine pure_ (i := 2) (N := some 27) (v := ?_) (a' := ?_) #[true, true, true, false, false, false, false, false, false, false, false, false, false, false] rfl rfl (any_of HT_.out (by kernel_rfl)) (fun _ _ _ h => h) (Or.inl ⟨by rfl, ?_⟩) ?_ ?_
         rotate_left
         ·intro w'
          go_simp
          with_reducible rfl
         rotate_left
         ·simp only [Act.put, List.setIfInBounds_toArray, List.set_cons_zero, List.set_cons_succ, i64_w, i32_w]
          rfl
         refine pure_ (i := 3) (N := some 28) (v := ?_) (a' := ?_) #[true, true, true, true, false, false, false, false, false, false, false, false, false, false] rfl rfl (any_of HT_.out (by kernel_rfl)) (fun _ _ _ h => h) (Or.inl ⟨by rfl, ?_⟩) ?_ ?_
         rotate_left
         ·intro w'
          go_simp
          with_reducible rfl
         rotate_left
         ·simp only [Act.put, List.setIfInBounds_toArray, List.set_cons_zero, List.set_cons_succ, i64_w, i32_w]
          rfl
         refine pure_ (i := 5) (N := some 30) (v := ?_) (a' := ?_) #[true, true, true, true, false, true, false, false, false, false, false, false, false, false] rfl rfl (any_of HT_.out (by kernel_rfl)) (fun _ _ _ h => h) (Or.inl ⟨by rfl, ?_⟩) ?_ ?_
         rotate_left
         ·intro w'
          go_simp
          with_reducible rfl
         rotate_left
         ·simp only [Act.put, List.setIfInBounds_toArray, List.set_cons_zero, List.set_cons_succ, i64_w, i32_w]
          rfl
         refine pure_ (i := 6) (N := some 31) (v := ?_) (a' := ?_) #[true, true, true, true, false, true, true, false, false, false, false, false, false, false] rfl rfl (any_of HT_.out (by kernel_rfl)) (fun _ _ _ h => h) (Or.inl ⟨by rfl, ?_⟩) ?_ ?_
         rotate_left
         ·intro w'
          go_simp
          with_reducible rfl
         rotate_left
         ·simp only [Act.put, List.setIfInBounds_toArray, List.set_cons_zero, List.set_cons_succ, i64_w, i32_w]
          rfl
         refine pure_ (i := 7) (N := some 32) (v := ?_) (a' := ?_) #[true, true, true, true, false, true, true, true, false, false, false, false, false, false] rfl rfl (any_of HT_.out (by kernel_rfl)) (fun _ _ _ h => h) (Or.inl ⟨by rfl, ?_⟩) ?_ ?_
         rotate_left
         ·intro w'
          go_simp
          with_reducible rfl
         rotate_left
         ·simp only [Act.put, List.setIfInBounds_toArray, List.set_cons_zero, List.set_cons_succ, i64_w, i32_w]
          rfl
         refine pure_ (i := 8) (N := some 33) (v := ?_) (a' := ?_) #[true, true, true, true, false, true, true, true, true, false, false, false, false, false] rfl rfl (any_of HT_.out (by kernel_rfl)) (fun _ _ _ h => h) (Or.inl ⟨by rfl, ?_⟩) ?_ ?_
         rotate_left
         ·intro w'
          go_simp
          with_reducible rfl
         rotate_left
         ·simp only [Act.put, List.setIfInBounds_toArray, List.set_cons_zero, List.set_cons_succ, i64_w, i32_w]
          rfl
         refine pure_ (i := 11) (N := some 36) (v := ?_) (a' := ?_) #[true, true, true, true, false, true, true, true, true, false, false, true, false, false] rfl rfl (any_of HT_.out (by kernel_rfl)) (fun _ _ _ h => h) (Or.inl ⟨by rfl, ?_⟩) ?_ ?_
         rotate_left
         ·intro w'
          go_simp
          with_reducible rfl
         rotate_left
         ·simp only [Act.put, List.setIfInBounds_toArray, List.set_cons_zero, List.set_cons_succ, i64_w, i32_w]
          rfl
         refine take_ (i := 4) (N := some 29) (v := ?_) (a' := ?_) #[true, true, true, true, true, true, true, true, true, false, false, true, false, false] rfl rfl (take_ofW HT_.out HW_.out (by kernel_rfl)) (fun _ _ _ h => h) (Or.inl ⟨by rfl, ?_⟩) hHeld ?_ ?_
         rotate_left
         ·rintro w' ⟨s0, s1, s2, s3⟩
          go_simp
          with_reducible rfl
         rotate_left
         ·simp only [Act.put, List.setIfInBounds_toArray, List.set_cons_zero, List.set_cons_succ, i64_w, i32_w]
          rfl
         refine take_ (i := 9) (N := some 34) (v := ?_) (a' := ?_) #[true, true, true, true, true, true, true, true, true, true, false, true, false, false] rfl rfl (take_ofW HT_.out HW_.out (by kernel_rfl)) (fun _ _ _ h => h) (Or.inl ⟨by rfl, ?_⟩) hHeld ?_ ?_
         rotate_left
         ·rintro w' ⟨s0, s1, s2, s3⟩
          go_simp
          with_reducible rfl
         rotate_left
         ·simp only [Act.put, List.setIfInBounds_toArray, List.set_cons_zero, List.set_cons_succ, i64_w, i32_w]
          rfl
         refine one_ (i := 10) (N := some 35) #[true, true, true, true, true, true, true, true, true, true, true, true, false, false] rfl rfl (one_of HT_.out (by kernel_rfl)) (by decide) (fun K hK => ?_)
         refine goes_ Tryz.func35 (by kernel_rfl) rfl #[.slice (some ad219) l0.length c0, .int .i64 ((rd_T60 l0 0).f0), .int .i64 ((rd_T60 l0 x8_1).f0)] (by rfl) rfl rfl z9_ ?_
         with_reducible refine (metrolabref26_Within.calls k1 _ _ l0 ((rd_T60 l0 0).f0) ((rd_T60 l0 x8_1).f0) t221 _ ?side1 ?side2 A12.out).mono ?_
         (case side1 => repeat (first | exact (Kd.C_below HR0.out HB.out) | (with_reducible refine Kd.C_alloc ?_ _) | (with_reducible refine Kd.C_drewN ?_ _) | (with_reducible refine Kd.C_drew ?_)))
         (case side2 => exact HC0.out)
         rintro e w19 ⟨rfl, hb⟩
         refine ⟨_, rfl, ?_⟩
         have n0_ := Aside0.mk (below_step z10_ hb)
         clear HB
         have HB := n0_
         clear n0_
         (try clear hb)
         (try clear hb2)
         (try clear hk)
         (try clear hi)
         refine hK.out _ _ ⟨((HB.out.cell (World.block_lt_of_cell? w _ hw219_0)).trans hw219_0), ((HB.out.cell (World.block_lt_of_cell? w _ hw219_1)).trans hw219_1), ((HB.out.cell (World.block_lt_of_cell? w _ hw220_0)).trans hw220_0), ((HB.out.cell (World.block_lt_of_cell? w _ hw220_1)).trans hw220_1)⟩ (fun hHeld => ?_)
         clear hK K
         refine norm_ (a' := ?_) ?_ ?_
         rotate_left
         ·show Act.put _ (some 35) _ = _
          simp only [Act.put, List.setIfInBounds_toArray, List.set_cons_zero, List.set_cons_succ, i64_w, i32_w]
          rfl
         refine one_ (i := 12) (N := some 37) #[true, true, true, true, true, true, true, true, true, true, true, true, true, false] rfl rfl (one_of HT_.out (by kernel_rfl)) (by decide) (fun K hK => ?_)
         refine goes_ Tryz.func39 (by kernel_rfl) rfl #[.string t221, .string a1] (by rfl) rfl rfl z9_ ?_
         with_reducible refine (metrolabref02_Order.calls t221 a1 t222 _ A13.out).mono ?_
         rintro e w20 ⟨rfl, hb⟩
         refine ⟨_, rfl, ?_⟩
         have n0_ := Aside0.mk (below_step z10_ hb)
         clear HB
         have HB := n0_
         clear n0_
         (try clear hb)
         (try clear hb2)
         (try clear hk)
         (try clear hi)
         refine hK.out _ _ ⟨((HB.out.cell (World.block_lt_of_cell? w _ hw219_0)).trans hw219_0), ((HB.out.cell (World.block_lt_of_cell? w _ hw219_1)).trans hw219_1), ((HB.out.cell (World.block_lt_of_cell? w _ hw220_0)).trans hw220_0), ((HB.out.cell (World.block_lt_of_cell? w _ hw220_1)).trans hw220_1)⟩ (fun hHeld => ?_)
         clear hK K
         refine norm_ (a' := ?_) ?_ ?_
         rotate_left
         ·show Act.put _ (some 37) _ = _
          simp only [Act.put, List.setIfInBounds_toArray, List.set_cons_zero, List.set_cons_succ, i64_w, i32_w]
          rfl
         refine pure_ (i := 13) (N := some 38) (v := ?_) (a' := ?_) #[true, true, true, true, true, true, true, true, true, true, true, true, true, true] rfl rfl (any_of HT_.out (by kernel_rfl)) (fun _ _ _ h => h) (Or.inl ⟨by rfl, ?_⟩) ?_ ?_
         rotate_left
         ·intro w'
          go_simp
          with_reducible rfl
         rotate_left
         ·simp only [Act.put, List.setIfInBounds_toArray, List.set_cons_zero, List.set_cons_succ, i64_w, i32_w]
          rfl
         refine done_ (done_of HT_.out (by kernel_rfl)) ?_
         try go_wp2
         go_roundg k1
         case measure => have := HK1.out; omega
         case rel => exact ⟨(wrap64 (x8_1 + 1)), z25_, H', ⟨by have := HK1.out; omega⟩, ⟨by repeat (first | (with_reducible first | exact HB.out | apply below_alloc | apply pw_below_drewN | apply below_drew1) | exact HB.out)⟩⟩
       ·rw [if_neg c11] at H
        exact absurd H (by simp)
      ·rw [if_neg c10] at H
       exact absurd H (by simp)
     ·rw [if_neg c9] at H
      have c9b0 : decide (x8_1 < (l0.length : Int)) = false := decide_eq_false c9
      clear c9
      simp only [Option.some.injEq, Prod.mk.injEq] at H
      obtain ⟨rfl, rfl⟩ := H
      go_wp2
      go_ret2
      exact ⟨z24_, z10_⟩
  ·rw [if_neg c6] at H
   have c6b0 := beq_eq_false_iff_ne.mpr c6
   have c6b1 := bne_iff_ne.mpr c6
   simp only [Option.some.injEq, Prod.mk.injEq] at H
   obtain ⟨rfl, rfl⟩ := H
   go_enter Tryz.func13, Tryz.ntmps13
   go_wp2_with (first | ((with_reducible refine gate_callee (f := 21) rfl ?_); refine goesL_ (some 10) rfl rfl Tryz.func21 (by kernel_rfl) rfl #[.slice A0 l0.length c0] rfl z9_ ?_; (with_reducible refine (metrolabref26_Check.calls k _ _ l0 t217 _ ?side1 ?side2 A3.out).mono ?_); (case side1 => repeat (first | exact HR0.out | (with_reducible refine Kd.C_alloc ?_ _) | (with_reducible refine Kd.C_drewN ?_ _) | (with_reducible refine Kd.C_drew ?_))); (case side2 => exact HC0.out); rintro e w21 ⟨rfl, hb⟩; refine ⟨_, rfl, ?_⟩; replace HB := Aside0.mk (below_step z10_ hb); clear hb) | (refine gy (f := 38) rfl (some 15) rfl Tryz.func38 (metrolabref26_Unit.calls a1 t218 _ A5.out) z10_ ?_; clear HB; intro w22 HB))
   go_ret2
   exact ⟨z24_, z10_⟩
 ·rw [if_neg c4] at H
  have c4b0 := beq_eq_false_iff_ne.mpr c4
  have c4b1 := bne_iff_ne.mpr c4
  simp only [Option.some.injEq, Prod.mk.injEq] at H
  obtain ⟨rfl, rfl⟩ := H
  go_enter Tryz.func13, Tryz.ntmps13
  go_wp2_with (first | ((with_reducible refine gate_callee (f := 21) rfl ?_); refine goesL_ (some 10) rfl rfl Tryz.func21 (by kernel_rfl) rfl #[.slice A0 l0.length c0] rfl z9_ ?_; (with_reducible refine (metrolabref26_Check.calls k _ _ l0 t217 _ ?side1 ?side2 A3.out).mono ?_); (case side1 => repeat (first | exact HR0.out | (with_reducible refine Kd.C_alloc ?_ _) | (with_reducible refine Kd.C_drewN ?_ _) | (with_reducible refine Kd.C_drew ?_))); (case side2 => exact HC0.out); rintro e w23 ⟨rfl, hb⟩; refine ⟨_, rfl, ?_⟩; replace HB := Aside0.mk (below_step z10_ hb); clear hb))
  go_ret2
  exact ⟨z24_, z10_⟩
end Go.Proofs.YtkdpcgmnkifbbaaGreatDoor.D
end
section
namespace Go.Proofs.YtkdpcgmnkifbbaaGreatDoor.D
open Go.RowKit Go.Proofs.YtkdpcgmnkifbbaaGreatDoorW.PrintWords Go.Proofs.YtkdpcgmnkifbbaaGreatDoorW.PrintLast Go.Proofs.YtkdpcgmnkifbbaaGreatDoorW.PrintMore
attribute [local go_sem] max2_int min2_int max_two min_two max_three min_three max_four min_four
set_option linter.unusedVariables false
set_option linter.unusedSimpArgs false
def metrolablaw26_DistPlaces.j0 : Nat → List (S60) → ByteArray → Bool → Int → Int → Option (Bool)
 | 0, _, _, _, _, _ => none
 | k + 1, x0, x2, x22, x225000, x225001 => if x22 = true then ((metrolablaw26_awake.f k).bind fun t227 => (some t227)) else ((dist_Probability.f x0 x225000 x225001).bind fun bt228 => ((metrolabref26_Probability.f k x0 x225000 x225001).bind fun bt230 => ((dist_Quantile.f k x0 x2).bind fun bt232 => ((metrolabref26_Quantile.f k x0 x2).bind fun bt234 => ((metrolablaw26_awake.f k).bind fun t236 => (if t236 = true then (if bt228.1.toList = bt230.1.toList then (if bt228.2 = bt230.2 then (if bt232.1 = bt234.1 then (some (bt232.2 == bt234.2)) else (some false)) else (some false)) else (some false)) else (some false)))))))
def metrolablaw26_DistPlaces.f (k : Nat) (l0 : List (S60)) (a1_0 : Int) (a1_1 : Int) (a2 : ByteArray) : Option (Bool) := (metrolabref26_Few.f k l0).bind fun t225 => (if t225 = true then ((metrolabref02_Short.f a2).bind fun t226 => (metrolablaw26_DistPlaces.j0 k l0 a2 (!t226) a1_0 a1_1)) else (metrolablaw26_DistPlaces.j0 k l0 a2 true a1_0 a1_1))
set_option maxHeartbeats 8000000 in
set_option maxRecDepth 100000 in
theorem metrolablaw26_DistPlaces.calls (k : Nat) (A0 : Option Addr) (c0 : Nat) (l0 : List (S60)) (a1_0 : Int) (a1_1 : Int) (a2 : ByteArray) (r : Bool) (hr_ : r = true) (w : World) (hr0 : Kd.C k60 w A0 l0.length l0) (hc0 : l0.length ≤ c0) (h : metrolablaw26_DistPlaces.f k l0 a1_0 a1_1 a2 = some r) (HT : Aside0 (Tabs w)) :
  Calls Tryz.prog 3 #[.slice A0 l0.length c0, .agg #[.int .i64 a1_0, .int .i64 a1_1], .string a2] w fun e w' => e = .returned (.bool r) ∧ Below w.heap.size w w' := by
 subst hr_
 have hu24 := Tryz.underlying24
 have HR0 := Aside0.mk hr0
 have HC0 := Aside0.mk hc0
 clear hr0 hc0
 have HB := Aside0.mk (Below.refl w.heap.size w)
 have H : ((metrolabref26_Few.f k l0).bind fun t225 => (if t225 = true then ((metrolabref02_Short.f a2).bind fun t226 => (metrolablaw26_DistPlaces.j0 k l0 a2 (!t226) a1_0 a1_1)) else (metrolablaw26_DistPlaces.j0 k l0 a2 true a1_0 a1_1))) = some true := h
 clear h
 have HC4 := Aside0.mk H
 clear H
 go_enter Tryz.func3, Tryz.ntmps3
 go_upto_region 1 with (first | ((with_reducible refine gate_dst (N := 4) rfl ?_); refine box_event ?hg (N := 4) ?hd (cs := #[.int .i64 a1_0, .int .i64 a1_1]) (t := 24) ?hr ?_; (case hd => rfl); (case hg => rfl); (case hr => first | (go_simp; done) | (go_simp; rfl)); intro gb224 hg w5 hbox hb; have n0_ := Aside0.mk (below_step z10_ hb); have n1_ := Aside0.mk (hbox); have n2_ := Aside0.mk ((by rw [hg]; exact (below_size z10_) : w.heap.size ≤ gb224)); have n3_ := Aside0.mk ((by rw [hg]; exact (below_size z10_) : w.heap.size ≤ gb224)); clear HB; have HB := n0_; have BK224 := n1_; have GW224 := n2_; have GE224 := n3_; clear n0_ n1_ n2_ n3_; clear hb hbox hg))
 (try simp only [Act.put, List.setIfInBounds_toArray, List.set_cons_zero, List.set_cons_succ])
 go_cut [22] (fun v22 wc => ∃ (kq : Nat) (x22_3 : Bool), v22 = .bool x22_3 ∧ Aside0 (metrolablaw26_DistPlaces.j0 kq l0 a2 x22_3 a1_0 a1_1 = some true) ∧ Aside0 (kq ≤ k) ∧ Aside0 (wc.heap[gb224]? = some (.cells #[.int .i64 a1_0, .int .i64 a1_1] 24 (0, 0))) ∧ Aside0 (Below w.heap.size w wc))
 case first =>
  have H := HC4.out
  clear HC4
  obtain ⟨t225, A6, H⟩ := bindA H
  by_cases c7 : t225 = true
  ·subst c7
   rw [if_pos rfl] at H
   obtain ⟨t226, A8, H⟩ := bindA H
   have H' := Aside0.mk H
   clear H
   go_wp2_with (first | ((with_reducible refine gate_callee (f := 7) rfl ?_); refine goesL_ (some 16) rfl rfl Tryz.func7 (by kernel_rfl) rfl #[.slice A0 l0.length c0] rfl z9_ ?_; (with_reducible refine (metrolabref26_Few.calls k _ _ l0 true _ ?side1 ?side2 A6.out).mono ?_); (case side1 => repeat (first | exact (Kd.C_below HR0.out HB.out) | (with_reducible refine Kd.C_alloc ?_ _) | (with_reducible refine Kd.C_drewN ?_ _) | (with_reducible refine Kd.C_drew ?_))); (case side2 => exact HC0.out); rintro e w' ⟨rfl, ⟨nd, rfl⟩⟩; refine ⟨_, rfl, ?_⟩) | (go_at_call 8; (with_reducible refine (metrolabref02_Short.calls a2 t226 _ A8.out).mono ?_); rintro e w9 ⟨rfl, hb⟩; have n0_ := Aside0.mk (blk_below (g := gb224) (o := .cells #[.int .i64 a1_0, .int .i64 a1_1] 24 (0, 0)) z11_ hb); have n1_ := Aside0.mk (below_step z8_ hb); clear BK224; clear HB; have BK224 := n0_; have HB := n1_; clear n0_ n1_; (try clear hb); (try clear hb2); (try clear hk); (try clear hi)))
   go_meet
   case rel => exact ⟨_, (!t226), z25_, H', ⟨by first | omega | exact Nat.le_refl _⟩, ⟨by (with_reducible repeat (first | refine blk_drewN ?_ _ | refine blk_drew ?_ | refine blk_alloc ?_ _)); exact BK224.out⟩, ⟨by repeat (first | (with_reducible first | exact HB.out | apply below_alloc | apply pw_below_drewN | apply below_drew1 | refine Go.Proofs.YtkdpcgmnkifbbaaGreatDoorW.PrintWords.below_set ?_ GE224.out) | exact HB.out)⟩⟩
  ·replace c7 := Bool.eq_false_iff.mpr c7
   subst c7
   rw [if_neg (show ¬ (false = true) by decide)] at H
   have H' := Aside0.mk H
   clear H
   go_wp2_with (first | ((with_reducible refine gate_callee (f := 7) rfl ?_); refine goesL_ (some 16) rfl rfl Tryz.func7 (by kernel_rfl) rfl #[.slice A0 l0.length c0] rfl z9_ ?_; (with_reducible refine (metrolabref26_Few.calls k _ _ l0 false _ ?side1 ?side2 A6.out).mono ?_); (case side1 => repeat (first | exact (Kd.C_below HR0.out HB.out) | (with_reducible refine Kd.C_alloc ?_ _) | (with_reducible refine Kd.C_drewN ?_ _) | (with_reducible refine Kd.C_drew ?_))); (case side2 => exact HC0.out); rintro e w' ⟨rfl, ⟨nd, rfl⟩⟩; refine ⟨_, rfl, ?_⟩))
   go_meet
   case rel => exact ⟨_, (true), z25_, H', ⟨by first | omega | exact Nat.le_refl _⟩, ⟨by (with_reducible repeat (first | refine blk_drewN ?_ _ | refine blk_drew ?_ | refine blk_alloc ?_ _)); exact BK224.out⟩, ⟨by repeat (first | (with_reducible first | exact HB.out | apply below_alloc | apply pw_below_drewN | apply below_drew1 | refine Go.Proofs.YtkdpcgmnkifbbaaGreatDoorW.PrintWords.below_set ?_ GE224.out) | exact HB.out)⟩⟩
 case rest =>
  clear HC4
  try clear p2
  try clear c3
  try clear c7
  obtain ⟨kq, x22_3, rfl, HA, HJ3, BK224, HB⟩ := hcut
  cases kq with
  | zero => exact absurd HA.out (by simp [metrolablaw26_DistPlaces.j0])
  | succ kj3 =>
   have H := HA.out
   clear HA
   simp only [metrolablaw26_DistPlaces.j0] at H
   by_cases c10 : x22_3 = true
   ·subst c10
    rw [if_pos rfl] at H
    obtain ⟨t227, A11, H⟩ := bindA H
    obtain rfl : t227 = true := Option.some.inj H
    go_wp2_with (first | (refine gz (f := 9) rfl (some 23) rfl Tryz.func9 (metrolablaw26_awake.calls kj3 true rfl _ A11.out (Aside0.mk (Tabs.below HT.out z4_))) ?_; rintro w12 hb; have n0_ := Aside0.mk (blk_below (g := gb224) (o := .cells #[.int .i64 a1_0, .int .i64 a1_1] 24 (0, 0)) z11_ hb); have n1_ := Aside0.mk (below_step z8_ hb); clear BK224; clear HB; have BK224 := n0_; have HB := n1_; clear n0_ n1_; (try clear hb); (try clear hb2); (try clear hk); (try clear hi)))
    go_ret
    exact ⟨z24_, by repeat (first | (with_reducible first | exact HB.out | apply below_alloc | apply pw_below_drewN | apply below_drew1 | refine Go.Proofs.YtkdpcgmnkifbbaaGreatDoorW.PrintWords.below_set ?_ GE224.out) | exact HB.out)⟩
   ·replace c10 := Bool.eq_false_iff.mpr c10
    subst c10
    rw [if_neg (show ¬ (false = true) by decide)] at H
    obtain ⟨⟨t228, t229⟩, A13, H⟩ := bindA H
    dsimp only at H
    obtain ⟨⟨t230, t231⟩, A14, H⟩ := bindA H
    dsimp only at H
    obtain ⟨⟨t232, t233⟩, A15, H⟩ := bindA H
    dsimp only at H
    obtain ⟨⟨t234, t235⟩, A16, H⟩ := bindA H
    dsimp only at H
    obtain ⟨t236, A17, H⟩ := bindA H
    by_cases c18 : t236 = true
    ·subst c18
     rw [if_pos rfl] at H
     by_cases c19 : t228.toList = t230.toList
     ·rw [if_pos c19] at H
      have c19b0 := beq_iff_eq.mpr c19
      have c19b1 := bne_eq_false_iff_eq.mpr c19
      clear c19
      by_cases c20 : t229 = t231
      ·rw [if_pos c20] at H
       have c20b0 := beq_iff_eq.mpr c20
       have c20b1 := bne_eq_false_iff_eq.mpr c20
       clear c20
       by_cases c21 : t232 = t234
       ·rw [if_pos c21] at H
        have c21b0 := beq_iff_eq.mpr c21
        have c21b1 := bne_eq_false_iff_eq.mpr c21
        clear c21
        have hE_ := Option.some.inj H
        have hcz22_0 : wc.cell? ⟨gb224, 0, none⟩ = some (.int .i64 a1_0) := (blk_cell BK224.out 0).trans rfl
        have hcz22_1 : wc.cell? ⟨gb224, 1, none⟩ = some (.int .i64 a1_1) := (blk_cell BK224.out 1).trans rfl
        have hfz22_0 := blk_frozen BK224.out 0
        have hfz22_1 := blk_frozen BK224.out 1
        go_wp2_with (first | ((with_reducible refine gate_callee (f := 10) rfl ?_); refine goesL_ (some 27) rfl rfl Tryz.func10 (by kernel_rfl) rfl #[.slice A0 l0.length c0, .agg #[.int .i64 a1_0, .int .i64 a1_1]] rfl z9_ ?_; (with_reducible refine (dist_Probability.calls _ _ l0 a1_0 a1_1 t228 t229 _ ?side1 ?side2 A13.out (Aside0.mk (Tabs.below HT.out z4_))).mono ?_); (case side1 => repeat (first | exact (Kd.C_below HR0.out HB.out) | (with_reducible refine Kd.C_alloc ?_ _) | (with_reducible refine Kd.C_drewN ?_ _) | (with_reducible refine Kd.C_drew ?_))); (case side2 => exact HC0.out); rintro e w23 ⟨rfl, hb⟩; refine ⟨_, rfl, ?_⟩; have n0_ := Aside0.mk (blk_below (g := gb224) (o := .cells #[.int .i64 a1_0, .int .i64 a1_1] 24 (0, 0)) z11_ hb); have n1_ := Aside0.mk (below_step z8_ hb); clear BK224; clear HB; have BK224 := n0_; have HB := n1_; clear n0_ n1_; (try clear hb); (try clear hb2); (try clear hk); (try clear hi); have hcz24_0 : w23.cell? ⟨gb224, 0, none⟩ = some (.int .i64 a1_0) := (blk_cell BK224.out 0).trans rfl; have hcz24_1 : w23.cell? ⟨gb224, 1, none⟩ = some (.int .i64 a1_1) := (blk_cell BK224.out 1).trans rfl; have hfz24_0 := blk_frozen BK224.out 0; have hfz24_1 := blk_frozen BK224.out 1) | ((with_reducible refine gate_callee (f := 11) rfl ?_); refine goesL_ (some 33) rfl rfl Tryz.func11 (by kernel_rfl) rfl #[.slice A0 l0.length c0, .agg #[.int .i64 a1_0, .int .i64 a1_1]] rfl z9_ ?_; (with_reducible refine (metrolabref26_Probability.calls kj3 _ _ l0 a1_0 a1_1 t230 t231 _ ?side1 ?side2 A14.out).mono ?_); (case side1 => repeat (first | exact (Kd.C_below HR0.out HB.out) | (with_reducible refine Kd.C_alloc ?_ _) | (with_reducible refine Kd.C_drewN ?_ _) | (with_reducible refine Kd.C_drew ?_))); (case side2 => exact HC0.out); rintro e w25 ⟨rfl, hb⟩; refine ⟨_, rfl, ?_⟩; have n0_ := Aside0.mk (blk_below (g := gb224) (o := .cells #[.int .i64 a1_0, .int .i64 a1_1] 24 (0, 0)) z11_ hb); have n1_ := Aside0.mk (below_step z8_ hb); clear BK224; clear HB; have BK224 := n0_; have HB := n1_; clear n0_ n1_; (try clear hb); (try clear hb2); (try clear hk); (try clear hi)) | ((with_reducible refine gate_callee (f := 12) rfl ?_); refine goesL_ (some 39) rfl rfl Tryz.func12 (by kernel_rfl) rfl #[.slice A0 l0.length c0, .string a2] rfl z9_ ?_; (with_reducible refine (dist_Quantile.calls kj3 _ _ l0 a2 t232 t233 _ ?side1 ?side2 A15.out (Aside0.mk (Tabs.below HT.out z4_))).mono ?_); (case side1 => repeat (first | exact (Kd.C_below HR0.out HB.out) | (with_reducible refine Kd.C_alloc ?_ _) | (with_reducible refine Kd.C_drewN ?_ _) | (with_reducible refine Kd.C_drew ?_))); (case side2 => exact HC0.out); rintro e w26 ⟨rfl, hb⟩; refine ⟨_, rfl, ?_⟩; have n0_ := Aside0.mk (blk_below (g := gb224) (o := .cells #[.int .i64 a1_0, .int .i64 a1_1] 24 (0, 0)) z11_ hb); have n1_ := Aside0.mk (below_step z8_ hb); clear BK224; clear HB; have BK224 := n0_; have HB := n1_; clear n0_ n1_; (try clear hb); (try clear hb2); (try clear hk); (try clear hi)) | ((with_reducible refine gate_callee (f := 13) rfl ?_); refine goesL_ (some 45) rfl rfl Tryz.func13 (by kernel_rfl) rfl #[.slice A0 l0.length c0, .string a2] rfl z9_ ?_; (with_reducible refine (metrolabref26_Quantile.calls kj3 _ _ l0 a2 t234 t235 _ ?side1 ?side2 A16.out).mono ?_); (case side1 => repeat (first | exact (Kd.C_below HR0.out HB.out) | (with_reducible refine Kd.C_alloc ?_ _) | (with_reducible refine Kd.C_drewN ?_ _) | (with_reducible refine Kd.C_drew ?_))); (case side2 => exact HC0.out); rintro e w27 ⟨rfl, hb⟩; refine ⟨_, rfl, ?_⟩; have n0_ := Aside0.mk (blk_below (g := gb224) (o := .cells #[.int .i64 a1_0, .int .i64 a1_1] 24 (0, 0)) z11_ hb); have n1_ := Aside0.mk (below_step z8_ hb); clear BK224; clear HB; have BK224 := n0_; have HB := n1_; clear n0_ n1_; (try clear hb); (try clear hb2); (try clear hk); (try clear hi)) | (refine gz (f := 9) rfl (some 48) rfl Tryz.func9 (metrolablaw26_awake.calls kj3 true rfl _ A17.out (Aside0.mk (Tabs.below HT.out z4_))) ?_; rintro w28 hb; have n0_ := Aside0.mk (blk_below (g := gb224) (o := .cells #[.int .i64 a1_0, .int .i64 a1_1] 24 (0, 0)) z11_ hb); have n1_ := Aside0.mk (below_step z8_ hb); clear BK224; clear HB; have BK224 := n0_; have HB := n1_; clear n0_ n1_; (try clear hb); (try clear hb2); (try clear hk); (try clear hi)))
        go_ret
        exact ⟨z24_, by repeat (first | (with_reducible first | exact HB.out | apply below_alloc | apply pw_below_drewN | apply below_drew1 | refine Go.Proofs.YtkdpcgmnkifbbaaGreatDoorW.PrintWords.below_set ?_ GE224.out) | exact HB.out)⟩
       ·rw [if_neg c21] at H
        have c21b0 := beq_eq_false_iff_ne.mpr c21
        have c21b1 := bne_iff_ne.mpr c21
        cases H
      ·rw [if_neg c20] at H
       have c20b0 := beq_eq_false_iff_ne.mpr c20
       have c20b1 := bne_iff_ne.mpr c20
       cases H
     ·rw [if_neg c19] at H
      have c19b0 := beq_eq_false_iff_ne.mpr c19
      have c19b1 := bne_iff_ne.mpr c19
      cases H
    ·replace c18 := Bool.eq_false_iff.mpr c18
     subst c18
     rw [if_neg (show ¬ (false = true) by decide)] at H
     cases H
end Go.Proofs.YtkdpcgmnkifbbaaGreatDoor.D
end
section
namespace Go.Proofs.YtkdpcgmnkifbbaaGreatDoor
open Go.RowKit Go.Proofs.YtkdpcgmnkifbbaaGreatDoorW.PrintWords Go.Proofs.YtkdpcgmnkifbbaaGreatDoorW.PrintMore
open D (S60 prs)
theorem prs_get (l : List S60) (i : Nat) (h : i < l.length) : D.rd_T60 l (i : Int) = l[i] := by
 unfold D.rd_T60; rw [Int.toNat_natCast, List.getD, List.getElem?_eq_getElem h]; rfl
theorem prs_at (l : List S60) (i : Nat) (h : i < l.length) : (prs l)[i]'(by rw [D.prs_len]; exact h) = (l[i].f0, l[i].f1) := by unfold prs; rw [List.getElem_map]
theorem few_l0 (l : List S60) (hl : l.length ≤ 4611686018427387904) (d i : Nat) (hd : i + d = l.length) (hi : i ≤ 13) (hall : ∀ j (h : j < l.length), j < i → l[j].f1.size ≤ 20) :
  ∃ b, Runs (fun k => D.metrolabref26_Few.l0 k l i) b ∧ (b = true → (l.length ≤ 12 ∧ ∀ x ∈ l, x.f1.size ≤ 20) ∨ l.length > 4096) := by
 have hend : i = l.length ∨ i = 13 → ∃ b, Runs (fun k => D.metrolabref26_Few.j1 k l i false) b ∧ (b = true → (l.length ≤ 12 ∧ ∀ x ∈ l, x.f1.size ≤ 20) ∨ l.length > 4096) := by
  intro he
  by_cases h12 : l.length ≤ 12
  ·refine ⟨true, Runs.succ (Runs.pure _) fun k => ?_, fun _ => .inl ⟨h12, fun x hx => ?_⟩⟩
   ·rw [D.metrolabref26_Few.j1, if_neg (by decide), if_pos (by omega)]
   ·obtain ⟨j, hj, rfl⟩ := List.getElem_of_mem hx
    exact hall j hj (by omega)
  ·by_cases h4 : l.length > 4096
   ·refine ⟨decide ((l.length : Int) < 8192), Runs.succ (Runs.pure _) fun k => ?_, fun _ => .inr h4⟩
    rw [D.metrolabref26_Few.j1, if_neg (by decide), if_neg (by omega), if_pos (by omega)]
   ·refine ⟨false, Runs.succ (Runs.pure _) fun k => ?_, fun h => by cases h⟩
    rw [D.metrolabref26_Few.j1, if_neg (by decide), if_neg (by omega), if_neg (by omega)]
 induction d generalizing i with
 | zero =>
  obtain ⟨b, hb, hb2⟩ := hend (.inl (by omega))
  refine ⟨b, Runs.succ hb fun k => ?_, hb2⟩
  rw [D.metrolabref26_Few.l0, if_neg (by omega)]
 | succ d ih =>
  by_cases h13 : i = 13
  ·obtain ⟨b, hb, hb2⟩ := hend (.inr h13)
   refine ⟨b, Runs.succ hb fun k => ?_, hb2⟩
   rw [D.metrolabref26_Few.l0, if_pos (by omega), decide_eq_false (by omega)]
  ·have hil : i < l.length := by omega
   have hg := prs_get l i hil
   by_cases h20 : l[i].f1.size > 20
   ·refine ⟨false, Runs.succ (Runs.succ (Runs.pure _) (g := fun k => D.metrolabref26_Few.j1 k l i true) fun k => ?_) fun k => ?_, fun h => by cases h⟩
    ·rw [D.metrolabref26_Few.j1, if_pos rfl, if_pos (by omega), if_pos (by omega), hg, if_pos (by omega)]
    ·rw [D.metrolabref26_Few.l0, if_pos (by omega), decide_eq_true (by omega)]
   ·obtain ⟨b, hb, hb2⟩ := ih (i + 1) (by omega) (by omega) (fun j hj hji => by
     by_cases hje : j = i
     ·subst hje; omega
     ·exact hall j hj (by omega)) (fun he => by
     by_cases h12 : l.length ≤ 12
     ·refine ⟨true, Runs.succ (Runs.pure _) fun k => ?_, fun _ => .inl ⟨h12, fun x hx => ?_⟩⟩
      ·rw [D.metrolabref26_Few.j1, if_neg (by decide), if_pos (by omega)]
      ·obtain ⟨j, hj, rfl⟩ := List.getElem_of_mem hx
       by_cases hje : j = i
       ·subst hje; omega
       ·exact hall j hj (by omega)
     ·by_cases h4 : l.length > 4096
      ·refine ⟨decide ((l.length : Int) < 8192), Runs.succ (Runs.pure _) fun k => ?_, fun _ => .inr h4⟩
       rw [D.metrolabref26_Few.j1, if_neg (by decide), if_neg (by omega), if_pos (by omega)]
      ·refine ⟨false, Runs.succ (Runs.pure _) fun k => ?_, fun h => by cases h⟩
       rw [D.metrolabref26_Few.j1, if_neg (by decide), if_neg (by omega), if_neg (by omega)])
    refine ⟨b, Runs.succ (Runs.succ hb (g := fun k => D.metrolabref26_Few.j1 k l i true) fun k => ?_) fun k => ?_, hb2⟩
    ·rw [D.metrolabref26_Few.j1, if_pos rfl, if_pos (by omega), if_pos (by omega), hg, if_neg (by omega), IntWalk.wrap64_in _ (by omega)]; rfl
    ·rw [D.metrolabref26_Few.l0, if_pos (by omega), decide_eq_true (by omega)]
theorem few_f (l : List S60) (hl : l.length ≤ 4611686018427387904) : ∃ b, Runs (fun k => D.metrolabref26_Few.f k l) b ∧ (b = true → (l.length ≤ 12 ∧ ∀ x ∈ l, x.f1.size ≤ 20) ∨ l.length > 4096) :=
 few_l0 l hl l.length 0 (by omega) (by omega) (fun _ _ h => by omega)
def szs (l : List S60) : Prop := ∀ x ∈ l, x.f1.size ≤ 140737488351232
theorem szs_prs {l : List S60} (h : szs l) : ∀ x ∈ prs l, x.2.size ≤ 9223372036854775807 := by
 intro x hx
 obtain ⟨y, hy, rfl⟩ := List.mem_map.1 hx
 exact Nat.le_trans (h y hy) (by decide)
theorem okI_of {a : ByteArray} (h : chk a = 0) : D.okI a := ⟨chk_form h, Nat.le_trans (chk_size90 h) (by decide)⟩
theorem okI_zero : D.okI (⟨#[48]⟩ : ByteArray) := okI_of zero_ok.1
theorem order_zero {a : ByteArray} (h : chk a = 0) : D.metrolabref01_Order.f a (⟨#[48]⟩ : ByteArray) = some (cmpv (ival a) 0) := by
 unfold D.metrolabref01_Order.f
 rw [if_pos ⟨okI_of h, okI_zero⟩, zero_ok.2]
theorem value_f (n : Int) : D.metrolabref26_Value.f n = some (decide (-1048576 ≤ n ∧ n ≤ 1048576)) := by
 unfold D.metrolabref26_Value.f
 by_cases h : n ≥ -1048576
 ·rw [if_pos h]
  by_cases h2 : n ≤ 1048576
  ·rw [decide_eq_true h2, decide_eq_true ⟨h, h2⟩]
  ·rw [decide_eq_false h2, decide_eq_false (fun h3 => h2 h3.2)]
 ·rw [if_neg h, decide_eq_false (fun h3 => h h3.1)]
theorem cmpv_zero_le {u : Int} : cmpv u 0 ≤ 0 ↔ u ≤ 0 := by
 unfold cmpv
 split
 ·constructor <;> intro <;> omega
 ·split <;> constructor <;> intro <;> omega
theorem rcheck26_l0 (l : List S60) (hz : szs l) (hl : l.length ≤ 4096) (d i : Nat) (hd : i + d = l.length) :
  Runs (fun k => D.metrolabref26_Check.l0 k l i) (dckl (prevv (prs l) i) ((prs l).drop i)) := by
 have hpl := D.prs_len l
 induction d generalizing i with
 | zero =>
  rw [List.drop_of_length_le (by omega)]
  refine Runs.succ (Runs.pure _) fun k => ?_
  rw [D.metrolabref26_Check.l0, if_neg (by omega)]; rfl
 | succ d ih =>
  have hil : i < l.length := by omega
  have hg := prs_get l i hil
  have hn := ih (i + 1) (by omega)
  have hsz := hz _ (List.getElem_mem hil)
  have hx := prs_at l i hil
  have hp1 : prevv (prs l) (i + 1) = some (l[i].f0) := by
   unfold prevv
   rw [if_neg (by omega), Nat.add_sub_cancel, List.getElem?_eq_getElem (by omega), hx]; rfl
  rw [hp1] at hn
  rw [List.drop_eq_getElem_cons (by omega), dckl, hx]
  have hck : D.metrolabref01_Check.f l[i].f1 = some (chk l[i].f1) := by
   unfold D.metrolabref01_Check.f; rw [if_pos (by omega)]
  by_cases h0 : chk l[i].f1 = 0
  ·have ho := order_zero h0
   have hbad : Runs (fun k => D.metrolabref26_Check.j1 k l i true) 2 := by
    refine Runs.succ (Runs.pure _) fun k => ?_
    rw [D.metrolabref26_Check.j1, if_pos rfl]
   by_cases hneg : ival l[i].f1 ≤ 0
   ·have e : dck1 (prevv (prs l) i) (l[i].f0, l[i].f1) = 2 := by
     unfold dck1
     rw [if_neg (fun h => h h0), if_pos (.inl hneg)]
    rw [e, if_pos (by decide)]
    refine Runs.succ hbad fun k => ?_
    rw [D.metrolabref26_Check.l0, if_pos (by omega), if_pos (by omega), hg, hck, Option.bind_some, if_pos h0, ho, Option.bind_some, if_pos (cmpv_zero_le.2 hneg)]
   ·by_cases hv : -1048576 ≤ l[i].f0 ∧ l[i].f0 ≤ 1048576
    ·have e : dck1 (prevv (prs l) i) (l[i].f0, l[i].f1) = (match prevv (prs l) i with | none => 0 | some q => if l[i].f0 ≤ q then 9 else 0) := by
      unfold dck1
      rw [if_neg (fun h => h h0), if_neg (fun h => h.elim hneg (fun h => h hv))]
      cases prevv (prs l) i <;> rfl
     have hgo : Runs (fun k => D.metrolabref26_Check.j1 k l i false) (if dck1 (prevv (prs l) i) (l[i].f0, l[i].f1) ≠ 0 then dck1 (prevv (prs l) i) (l[i].f0, l[i].f1) else dckl (some l[i].f0) ((prs l).drop (i + 1))) := by
      rw [e]
      by_cases hi0 : i = 0
      ·have ep : prevv (prs l) i = none := if_pos hi0
       rw [ep]
       simp only [ne_eq, not_true_eq_false, if_false]
       refine Runs.succ hn fun k => ?_
       rw [D.metrolabref26_Check.j1, if_neg (by decide), if_neg (by omega), IntWalk.wrap64_in _ (by omega)]; rfl
      ·obtain ⟨m, rfl⟩ : ∃ m, i = m + 1 := ⟨i - 1, by omega⟩
       have hml : m < l.length := by omega
       have ep : prevv (prs l) (m + 1) = some (l[m].f0) := by
        unfold prevv
        rw [if_neg (by omega), Nat.add_sub_cancel, List.getElem?_eq_getElem (by omega), prs_at l m hml]; rfl
       have hgm := prs_get l m hml
       have w1 : wrap64 (((m + 1 : Nat) : Int) - 1) = (m : Int) := by rw [IntWalk.wrap64_in _ (by omega)]; omega
       rw [ep]
       simp only
       by_cases hle : l[m + 1].f0 ≤ l[m].f0
       ·rw [if_pos hle, if_pos (by decide)]
        refine Runs.succ (Runs.pure _) fun k => ?_
        rw [D.metrolabref26_Check.j1, if_neg (by decide), if_pos (by omega), if_pos (by omega), if_pos (by omega), w1, if_pos (by omega), if_pos (by omega), hg, hgm, if_pos hle]
       ·rw [if_neg hle, if_neg (fun h => h rfl)]
        refine Runs.succ hn fun k => ?_
        rw [D.metrolabref26_Check.j1, if_neg (by decide), if_pos (by omega), if_pos (by omega), if_pos (by omega), w1, if_pos (by omega), if_pos (by omega), hg, hgm, if_neg hle, IntWalk.wrap64_in _ (by omega)]; rfl
     refine Runs.succ hgo fun k => ?_
     rw [D.metrolabref26_Check.l0, if_pos (by omega), if_pos (by omega), hg, hck, Option.bind_some, if_pos h0, ho, Option.bind_some, if_neg (fun h => hneg (cmpv_zero_le.1 h)), value_f, Option.bind_some, decide_eq_true hv]; rfl
    ·have e : dck1 (prevv (prs l) i) (l[i].f0, l[i].f1) = 2 := by
      unfold dck1
      rw [if_neg (fun h => h h0), if_pos (.inr hv)]
     rw [e, if_pos (by decide)]
     refine Runs.succ hbad fun k => ?_
     rw [D.metrolabref26_Check.l0, if_pos (by omega), if_pos (by omega), hg, hck, Option.bind_some, if_pos h0, ho, Option.bind_some, if_neg (fun h => hneg (cmpv_zero_le.1 h)), value_f, Option.bind_some, decide_eq_false hv]; rfl
  ·have e : dck1 (prevv (prs l) i) (l[i].f0, l[i].f1) = chk l[i].f1 := if_pos h0
   rw [e, if_pos h0]
   refine Runs.succ (Runs.pure _) fun k => ?_
   rw [D.metrolabref26_Check.l0, if_pos (by omega), if_pos (by omega), hg, hck, Option.bind_some, if_neg h0]
theorem rcheck26 (l : List S60) (hz : szs l) (hl : l.length ≤ 4611686018427387904) : Runs (fun k => D.metrolabref26_Check.f k l) (dck (prs l)) := by
 unfold D.metrolabref26_Check.f dck
 rw [D.prs_len]
 by_cases h0 : l.length = 0
 ·rw [if_pos h0]; exact Runs.pos (by omega) (Runs.pure _)
 ·rw [if_neg h0]
  refine Runs.neg (by omega) ?_
  by_cases h1 : l.length > 4096
  ·rw [if_pos h1]; exact Runs.pos (by omega) (Runs.pure _)
  ·rw [if_neg h1]
   refine Runs.neg (by omega) ?_
   have h := rcheck26_l0 l hz (by omega) l.length 0 (by omega)
   exact h
end Go.Proofs.YtkdpcgmnkifbbaaGreatDoor
end
section
namespace Go.Proofs.YtkdpcgmnkifbbaaGreatDoor
open Go.RowKit Go.Proofs.YtkdpcgmnkifbbaaGreatDoorW.PrintWords Go.Proofs.YtkdpcgmnkifbbaaGreatDoorW.PrintMore
open D (S60 prs)
theorem len_lt {v : Int} {e n : Nat} (h : v.natAbs < 10 ^ e) (h0 : 0 < e) (hn : e ≤ n) : (dtx v.natAbs).size ≤ n := Nat.le_trans (size_of_lt h h0) hn
theorem okI_bd {v : Int} {e : Nat} (h : v.natAbs < 10 ^ e) (h0 : 0 < e) (hn : e ≤ 30000) : D.okI (itx v) := D.okI_itx (len_lt h h0 hn)
theorem okR_bd {q : Rat} {e : Nat} (h : Bd e q) (h0 : 0 < e) (hn : e ≤ 15000) : D.okR (rtx q) := D.okR_rtx (h.len h0 hn)
theorem plus_itx {u v : Int} {e : Nat} (hu : u.natAbs < 10 ^ e) (hv : v.natAbs < 10 ^ e) (h0 : 0 < e) (hn : e ≤ 30000) : D.metrolabref01_Plus.f (itx u) (itx v) = some (itx (u + v)) := by
 unfold D.metrolabref01_Plus.f
 rw [if_pos ⟨okI_bd hu h0 hn, okI_bd hv h0 hn⟩, ival_itx, ival_itx]
theorem plus_rtx {p q : Rat} {a b : Nat} (hp : Bd a p) (hq : Bd b q) (ha : 0 < a) (hb : 0 < b) (hn : a ≤ 15000) (hm : b ≤ 15000) : D.metrolabref02_Plus.f (rtx p) (rtx q) = some (rtx (p + q)) := by
 unfold D.metrolabref02_Plus.f
 rw [if_pos ⟨okR_bd hp ha hn, okR_bd hq hb hm⟩, rval_rtx, rval_rtx]
theorem order_rtx {p q : Rat} {a b : Nat} (hp : Bd a p) (hq : Bd b q) (ha : 0 < a) (hb : 0 < b) (hn : a ≤ 15000) (hm : b ≤ 15000) : D.metrolabref02_Order.f (rtx p) (rtx q) = some (cmpq p q) := by
 unfold D.metrolabref02_Order.f
 rw [if_pos ⟨okR_bd hp ha hn, okR_bd hq hb hm⟩, rval_rtx, rval_rtx]
theorem wtx {l : List S60} (h : Gd (prs l)) {i : Nat} (hi : i < l.length) : l[i].f1 = itx (ival l[i].f1) ∧ (ival l[i].f1).natAbs < 10 ^ 60 ∧ fW ((prs l)[i]'(by rw [D.prs_len]; exact hi)) = ival l[i].f1 := by
 have hm : (prs l)[i]'(by rw [D.prs_len]; exact hi) ∈ prs l := List.getElem_mem _
 have h1 := h.ck _ hm
 have h2 := h.lim _ hm
 rw [prs_at l i hi] at h1 h2
 refine ⟨(chk_zero h1).1, h2, ?_⟩
 rw [prs_at l i hi]; rfl
theorem lt77 {v : Int} (h : v.natAbs < 10 ^ 60) : v.natAbs < 10 ^ 77 := Nat.lt_of_lt_of_le h (Nat.pow_le_pow_right (by decide) (by decide))
theorem sum77k {l : List (Int × ByteArray)} (hl : l.length ≤ 4096) {f : Int × ByteArray → Int} (h : ∀ x ∈ l, (f x).natAbs ≤ 10 ^ 73) (i : Nat) : (sumf f (l.take i)).natAbs < 10 ^ 77 :=
 sum77 (Nat.le_trans (by rw [List.length_take]; exact Nat.min_le_right _ _) hl) (fun x hx => h x (List.mem_of_mem_take hx))
theorem whole_l0 (l : List S60) (h : Gd (prs l)) (d i : Nat) (hd : i + d = l.length) : Runs (fun k => D.metrolabref26_Whole.l0 k l (itx (sumf fW ((prs l).take i))) i) (itx (totw (prs l))) := by
 have hpl := D.prs_len l
 have hll := h.len
 induction d generalizing i with
 | zero =>
  rw [List.take_of_length_le (by omega)]
  refine Runs.succ (Runs.pure _) fun k => ?_
  rw [D.metrolabref26_Whole.l0, if_neg (by omega)]; rfl
 | succ d ih =>
  have hi : i < l.length := by omega
  have hg := prs_get l i hi
  obtain ⟨w1, w2, w3⟩ := wtx h hi
  have hn := ih (i + 1) (by omega)
  rw [sumf_take fW (prs l) i (by omega), w3] at hn
  have hp := plus_itx (sum77k h.len h.fW i) (lt77 w2) (by decide) (by decide)
  rw [← w1] at hp
  refine Runs.succ hn fun k => ?_
  rw [D.metrolabref26_Whole.l0, if_pos (by omega), if_pos (by omega), hg, hp, Option.bind_some, IntWalk.wrap64_in _ (by omega)]; rfl
theorem whole_run (l : List S60) (h : Gd (prs l)) : Runs (fun k => D.metrolabref26_Whole.f k l) (itx (totw (prs l))) := by
 have := whole_l0 l h l.length 0 (by omega)
 rw [List.take_zero] at this
 rw [show itx (sumf fW []) = (⟨#[48]⟩ : ByteArray) from itx_zero] at this
 exact this
def chq (l : List S60) (i : Nat) (hi : i < l.length) : Rat := Rat.divInt (ival l[i].f1) (totw (prs l))
theorem chq_bd {l : List S60} (h : Gd (prs l)) {i : Nat} (hi : i < l.length) : Bd 77 (chq l i hi) := bd_divInt h.tot0 (lt77 (wtx h hi).2.1) h.tot
theorem chance_run (l : List S60) (h : Gd (prs l)) (i : Nat) (hi : i < l.length) : Runs (fun k => D.metrolabref26_Chance.f k l i) (rtx (chq l i hi)) := by
 unfold D.metrolabref26_Chance.f
 refine Runs.pos (by omega) (Runs.pos (by omega) (Runs.bind (whole_run l h) ?_))
 obtain ⟨w1, w2, w3⟩ := wtx h hi
 rw [prs_get l i hi]
 have e : D.metrolabref02_Lowest.f l[i].f1 (itx (totw (prs l))) = some (rtx (chq l i hi)) := by
  unfold D.metrolabref02_Lowest.f
  have o1 := okI_bd (lt77 w2) (by decide) (by decide)
  rw [← w1] at o1
  rw [if_pos ⟨⟨o1, okI_bd h.tot (by decide) (by decide)⟩, by rw [ival_itx]; exact h.tot0⟩, ival_itx]; rfl
 rw [e, Option.bind_some]
 exact Runs.pure _
theorem divInt_sum {u v t : Int} (ht : t ≠ 0) : Rat.divInt u t + Rat.divInt v t = Rat.divInt (u + v) t := by
 rw [Rat.divInt_add_divInt u v ht ht, ← Int.add_mul, Rat.divInt_mul_right ht]
def partP (l : List (Int × ByteArray)) (lo hi : Int) (i : Nat) : Rat := Rat.divInt (sumf (fP lo hi) (l.take i)) (totw l)
theorem partP_bd {l : List (Int × ByteArray)} (h : Gd l) (lo hi : Int) (i : Nat) : Bd 77 (partP l lo hi i) := bd_divInt h.tot0 (sum77k h.len (h.fP lo hi) i) h.tot
theorem within_l0 (l : List S60) (h : Gd (prs l)) (lo hi : Int) (d i : Nat) (hd : i + d = l.length) : Runs (fun k => D.metrolabref26_Within.l0 k l lo hi (rtx (partP (prs l) lo hi i)) i) (rtx (probq (prs l) lo hi)) := by
 have hpl := D.prs_len l
 have hll := h.len
 induction d generalizing i with
 | zero =>
  have e : partP (prs l) lo hi i = probq (prs l) lo hi := by unfold partP probq; rw [List.take_of_length_le (by omega)]
  rw [e]
  refine Runs.succ (Runs.pure _) fun k => ?_
  rw [D.metrolabref26_Within.l0, if_neg (by omega)]
 | succ d ih =>
  have hil : i < l.length := by omega
  have hg := prs_get l i hil
  have hn := ih (i + 1) (by omega)
  have hst := sumf_take (fP lo hi) (prs l) i (by omega)
  have hfx : fP lo hi ((prs l)[i]'(by omega)) = pick lo hi l[i].f0 (ival l[i].f1) := by rw [prs_at l i hil]; rfl
  rw [hfx] at hst
  have w6 : wrap64 ((i : Int) + 1) = ((i + 1 : Nat) : Int) := by rw [IntWalk.wrap64_in _ (by omega)]; omega
  have hout : ¬ (lo ≤ l[i].f0 ∧ l[i].f0 ≤ hi) → Runs (fun k => D.metrolabref26_Within.j1 k l lo hi (rtx (partP (prs l) lo hi i)) i false) (rtx (probq (prs l) lo hi)) := by
   intro hno
   have e : partP (prs l) lo hi (i + 1) = partP (prs l) lo hi i := by
    unfold partP
    rw [hst]
    unfold pick
    rw [if_pos (by omega), Int.add_zero]
   rw [e] at hn
   refine Runs.succ hn fun k => ?_
   rw [D.metrolabref26_Within.j1, if_neg (by decide), w6]
  by_cases h1 : l[i].f0 ≥ lo
  ·by_cases h2 : l[i].f0 ≤ hi
   ·have e : partP (prs l) lo hi i + chq l i hil = partP (prs l) lo hi (i + 1) := by
     unfold partP chq
     rw [divInt_sum h.tot0, hst]
     unfold pick
     rw [if_neg (by omega)]
    have hp := plus_rtx (partP_bd h lo hi i) (chq_bd h hil) (by decide) (by decide) (by decide) (by decide)
    rw [e] at hp
    have hin : Runs (fun k => D.metrolabref26_Within.j1 k l lo hi (rtx (partP (prs l) lo hi i)) i true) (rtx (probq (prs l) lo hi)) := by
     refine Runs.succ (f := fun k => (D.metrolabref26_Chance.f k l i).bind fun t212 => ((D.metrolabref02_Plus.f (rtx (partP (prs l) lo hi i)) t212).bind fun t213 => (D.metrolabref26_Within.l0 k l lo hi t213 ((i + 1 : Nat) : Int)))) (Runs.bind (chance_run l h i hil) ?_) fun k => ?_
     ·rw [hp]; simp only [Option.bind_some]; exact hn
     ·rw [D.metrolabref26_Within.j1, if_pos rfl, w6]
    refine Runs.succ hin fun k => ?_
    rw [D.metrolabref26_Within.l0, if_pos (by omega), if_pos (by omega), hg, if_pos h1, decide_eq_true h2]
   ·refine Runs.succ (hout (fun h3 => h2 h3.2)) fun k => ?_
    rw [D.metrolabref26_Within.l0, if_pos (by omega), if_pos (by omega), hg, if_pos h1, decide_eq_false h2]
  ·refine Runs.succ (hout (fun h3 => h1 h3.1)) fun k => ?_
   rw [D.metrolabref26_Within.l0, if_pos (by omega), if_pos (by omega), hg, if_neg h1]
theorem rtx_zero : rtx 0 = (⟨#[48]⟩ : ByteArray) := by
 rw [← itx_zero]
 exact rtx_int 0
theorem rtx_one : rtx 1 = (⟨#[49]⟩ : ByteArray) := by
 rw [one_text]
 exact rtx_int 1
theorem within_run (l : List S60) (h : Gd (prs l)) (lo hi : Int) : Runs (fun k => D.metrolabref26_Within.f k l lo hi) (rtx (probq (prs l) lo hi)) := by
 have := within_l0 l h lo hi l.length 0 (by omega)
 have e : partP (prs l) lo hi 0 = 0 := by
  unfold partP
  rw [List.take_zero]
  show Rat.divInt 0 _ = 0
  exact Rat.zero_divInt _
 rw [e, rtx_zero] at this
 exact this
theorem gd_ck {l : List (Int × ByteArray)} (h : dck l = 0) : ∀ x ∈ l, chk x.2 = 0 := by
 unfold dck at h
 split at h
 ·cases h
 ·split at h
  ·cases h
  ·exact fun x hx => (dckl_all h x hx).1
structure Fine (l : List S60) : Prop where
 sz : szs l
 lim : dck (prs l) = 0 → ∀ x ∈ prs l, (ival x.2).natAbs < 10 ^ 60
 len : l.length ≤ 4611686018427387904
theorem Fine.ok {l : List S60} (h : Fine l) : okD (prs l) := ⟨szs_prs h.sz, h.lim⟩
theorem Fine.gd {l : List S60} (h : Fine l) (h0 : dck (prs l) = 0) : Gd (prs l) := gd_of h0 (h.lim h0)
theorem prob_run (l : List S60) (h : Fine l) (lo hi : Int) : Runs (fun k => D.metrolabref26_Probability.f k l lo hi) (probR (prs l) lo hi) := by
 unfold D.metrolabref26_Probability.f probR distR
 refine Runs.bind (rcheck26 l h.sz h.len) ?_
 by_cases h0 : dck (prs l) = 0
 ·rw [if_pos h0]
  refine Runs.pos h0 ?_
  by_cases h1 : lo > hi
  ·rw [if_pos h1]; exact Runs.pos h1 (Runs.pure _)
  ·rw [if_neg h1]; exact Runs.neg h1 (Runs.bind (within_run l (h.gd h0) lo hi) (Runs.pure _))
 ·rw [if_neg h0]; exact Runs.neg h0 (Runs.pure _)
theorem dprob_f (l : List S60) (h : Fine l) (lo hi : Int) : D.dist_Probability.f l lo hi = some (probR (prs l) lo hi) := by
 unfold D.dist_Probability.f; rw [if_pos h.ok]
theorem dcheck_f (l : List S60) (h : Fine l) : D.dist_Check.f l = some (dck (prs l)) := by
 unfold D.dist_Check.f; rw [if_pos (szs_prs h.sz)]
theorem fine_few {l : List S60} (hsz : szs l) (hl : l.length ≤ 4611686018427387904) (h : (l.length ≤ 12 ∧ ∀ x ∈ l, x.f1.size ≤ 20) ∨ l.length > 4096) : Fine l := by
 refine ⟨hsz, fun h0 x hx => ?_, hl⟩
 rcases h with h | h
 ·obtain ⟨y, hy, rfl⟩ := List.mem_map.1 hx
  have hck := (gd_ck h0) _ hx
  have h1 := h.2 y hy
  have e := (chk_zero hck).1
  have h2 := dtx_le_itx (ival y.f1)
  rw [← e] at h2
  exact Nat.lt_of_lt_of_le (lt_of_size (Nat.le_trans h2 h1)) (Nat.pow_le_pow_right (by decide) (by decide))
 ·exfalso
  unfold dck at h0
  rw [D.prs_len, if_neg (by omega), if_pos h] at h0
  cases h0
end Go.Proofs.YtkdpcgmnkifbbaaGreatDoor
end
