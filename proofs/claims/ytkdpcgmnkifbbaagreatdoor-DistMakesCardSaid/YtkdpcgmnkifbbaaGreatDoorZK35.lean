/- Joined by a program of this session out of its texts, with only what the last theorem needs: Dx10. No conditions but those stated. -/
import Derived.Test.YtkdpcgmnkifbbaaGreatDoorZK07
import Derived.Test.YtkdpcgmnkifbbaaGreatDoorZK30
import Derived.Test.YtkdpcgmnkifbbaaGreatDoorZK32
import Derived.Test.YtkdpcgmnkifbbaaGreatDoorZK33
import Derived.Test.YtkdpcgmnkifbbaaGreatDoorZK34
import Derived.Test.YtkdpcgmnkifbbaaGreatDoorZK27
set_option linter.unusedVariables false
set_option linter.unusedSimpArgs false
namespace Go.Proofs.YtkdpcgmnkifbbaaGreatDoorW.PrintLast
end Go.Proofs.YtkdpcgmnkifbbaaGreatDoorW.PrintLast
namespace Go.Proofs.YtkdpcgmnkifbbaaGreatDoorW.PrintMore
end Go.Proofs.YtkdpcgmnkifbbaaGreatDoorW.PrintMore
namespace Go.Proofs.YtkdpcgmnkifbbaaGreatDoorW.PrintWords
end Go.Proofs.YtkdpcgmnkifbbaaGreatDoorW.PrintWords
namespace Go.Proofs.YtkdpcgmnkifbbaaGreatDoor.D
open Go.RowKit Go.Proofs.YtkdpcgmnkifbbaaGreatDoorW.PrintWords Go.Proofs.YtkdpcgmnkifbbaaGreatDoorW.PrintLast Go.Proofs.YtkdpcgmnkifbbaaGreatDoorW.PrintMore
attribute [local go_sem] max2_int min2_int max_two min_two max_three min_three max_four min_four
set_option linter.unusedVariables false
set_option linter.unusedSimpArgs false
def metrolabref26_Trials.l0 : Nat → Int → Int → Int → List (S60) → Int → Option ((List (S60)))
 | 0, _, _, _, _, _ => none
 | k + 1, x0, x1, x2, x7, x8 => if x8 ≤ x0 then ((metrolabref01_Chosen.f x0 x8).bind fun t285 => ((metrolabref26_Power.f k x1 x8).bind fun t286 => ((metrolabref26_Power.f k (wrap64 (x2 - x1)) (wrap64 (x0 - x8))).bind fun t287 => ((metrolabref01_Times.f t286 t287).bind fun t288 => ((metrolabref01_Times.f t285 t288).bind fun t289 => (if t289.toList = ([48] : List UInt8) then (metrolabref26_Trials.l0 k x0 x1 x2 x7 (wrap64 (x8 + 1))) else (if x7.length < 5864062014805 then (metrolabref26_Trials.l0 k x0 x1 x2 (x7 ++ [(⟨x8, t289⟩ : S60)]) (wrap64 (x8 + 1))) else (none)))))))) else (some x7)
def metrolabref26_Trials.f (k : Nat) (a0 : Int) (a1 : Int) (a2 : Int) : Option ((List (S60))) := metrolabref26_Trials.l0 k a0 a1 a2 ([] : List (S60)) 0
set_option maxHeartbeats 8000000 in
set_option maxRecDepth 100000 in
theorem metrolabref26_Trials.calls (k : Nat) (a0 : Int) (a1 : Int) (a2 : Int) (r : List (S60)) (w : World) (h : metrolabref26_Trials.f k a0 a1 a2 = some r) :
  Calls Tryz.prog 57 #[.int .i64 a0, .int .i64 a1, .int .i64 a2] w fun e w' => ∃ v0_ : Value, e = .returned (v0_) ∧ Kd.R k60 60 w' w.heap.size (fun _ => True) v0_ r ∧ Below w.heap.size w w' := by
 have hu60 := Tryz.underlying60
 have HB := Aside0.mk (Below.refl w.heap.size w)
 have H : (metrolabref26_Trials.l0 k a0 a1 a2 ([] : List (S60)) 0) = some r := h
 clear h
 have H' := Aside0.mk H
 clear H
 go_enter Tryz.func57, Tryz.ntmps57
 go_wp2
 go_loopg [7, 8] k (fun kq v7 v8 w' => ∃ (x7_1 : List (S60)) (x8_1 : Int), v8 = .int .i64 x8_1 ∧ Aside0 (metrolabref26_Trials.l0 kq a0 a1 a2 x7_1 x8_1 = some r) ∧ Aside0 (kq ≤ k) ∧ Aside0 (Kd.R k60 60 w' w.heap.size (fun _ => True) v7 x7_1) ∧ Aside0 (Below w.heap.size w w'))
 case atStart => exact ⟨(([] : List (S60))), (0), z25_, H', ⟨Nat.le_refl _⟩, ⟨by first | exact Kd.R_nil _ _ _ _ _ | exact Kd.N_nil _ _ _ _ _ | exact Kd.V_nil _ _ _ _ _ | exact Kd.Q_nil _ _ _ _ _ | exact Kd.S_nil _ _ _ _ _⟩, ⟨by repeat (first | (with_reducible first | exact HB.out | apply below_alloc | apply pw_below_drewN | apply below_drew1) | exact HB.out)⟩⟩
 case round =>
  clear H'
  try clear p2
  obtain ⟨x7_1, x8_1, rfl, HA, HK1, HO_7, HB⟩ := hrel
  cases gk with
  | zero => exact absurd HA.out (by simp [metrolabref26_Trials.l0])
  | succ k1 =>
   have H := HA.out
   clear HA
   simp only [metrolabref26_Trials.l0] at H
   by_cases c4 : x8_1 ≤ a0
   ·rw [if_pos c4] at H
    have c4b0 : decide (x8_1 ≤ a0) = true := decide_eq_true c4
    clear c4
    obtain ⟨t285, A5, H⟩ := bindA H
    obtain ⟨t286, A6, H⟩ := bindA H
    obtain ⟨t287, A7, H⟩ := bindA H
    obtain ⟨t288, A8, H⟩ := bindA H
    obtain ⟨t289, A9, H⟩ := bindA H
    by_cases c10 : t289.toList = ([48] : List UInt8)
    ·rw [if_pos c10] at H
     have c10b0 := beq_iff_eq.mpr c10
     have c10b1 := bne_eq_false_iff_eq.mpr c10
     clear c10
     have H' := Aside0.mk H
     clear H
     go_wp2_with (first | (refine gz (f := 98) rfl (some 17) rfl Tryz.func98 (metrolabref01_Chosen.calls a0 x8_1 t285 _ A5.out) ?_; rintro w11 hb; have n0_ := Aside0.mk (Kd.R_below z21_ hb); have n1_ := Aside0.mk (below_step z10_ hb); clear HO_7; clear HB; have HO_7 := n0_; have HB := n1_; clear n0_ n1_; (try clear hb); (try clear hb2); (try clear hk); (try clear hi)) | (refine gz (f := 99) rfl (some 20) rfl Tryz.func99 (metrolabref26_Power.calls k1 a1 x8_1 t286 _ A6.out) ?_; rintro w12 hb; have n0_ := Aside0.mk (Kd.R_below z21_ hb); have n1_ := Aside0.mk (below_step z10_ hb); clear HO_7; clear HB; have HO_7 := n0_; have HB := n1_; clear n0_ n1_; (try clear hb); (try clear hb2); (try clear hk); (try clear hi)) | (refine gz (f := 99) rfl (some 27) rfl Tryz.func99 (metrolabref26_Power.calls k1 (wrap64 (a2 - a1)) (wrap64 (a0 - x8_1)) t287 _ A7.out) ?_; rintro w13 hb; have n0_ := Aside0.mk (Kd.R_below z21_ hb); have n1_ := Aside0.mk (below_step z10_ hb); clear HO_7; clear HB; have HO_7 := n0_; have HB := n1_; clear n0_ n1_; (try clear hb); (try clear hb2); (try clear hk); (try clear hi)) | (refine gz (f := 97) rfl (some 28) rfl Tryz.func97 (metrolabref01_Times.calls t286 t287 t288 _ A8.out) ?_; rintro w14 hb; have n0_ := Aside0.mk (Kd.R_below z21_ hb); have n1_ := Aside0.mk (below_step z10_ hb); clear HO_7; clear HB; have HO_7 := n0_; have HB := n1_; clear n0_ n1_; (try clear hb); (try clear hb2); (try clear hk); (try clear hi)) | (refine gz (f := 97) rfl (some 29) rfl Tryz.func97 (metrolabref01_Times.calls t285 t288 t289 _ A9.out) ?_; rintro w15 hb; have n0_ := Aside0.mk (Kd.R_below z21_ hb); have n1_ := Aside0.mk (below_step z10_ hb); clear HO_7; clear HB; have HO_7 := n0_; have HB := n1_; clear n0_ n1_; (try clear hb); (try clear hb2); (try clear hk); (try clear hi)))
     go_roundg k1
     case measure => have := HK1.out; omega
     case rel => exact ⟨(x7_1), (wrap64 (x8_1 + 1)), z25_, H', ⟨by have := HK1.out; omega⟩, ⟨by (with_reducible repeat (first | apply Kd.R_alloc | apply Kd.R_drewN | apply Kd.R_drew)); first | exact HO_7.out | (simp only [w64_m256]; exact HO_7.out)⟩, ⟨by repeat (first | (with_reducible first | exact HB.out | apply below_alloc | apply pw_below_drewN | apply below_drew1) | exact HB.out)⟩⟩
    ·rw [if_neg c10] at H
     have c10b0 := beq_eq_false_iff_ne.mpr c10
     have c10b1 := bne_iff_ne.mpr c10
     by_cases c16 : x7_1.length < 5864062014805
     ·rw [if_pos c16] at H
      have LMc16 := Aside0.mk c16
      clear c16
      obtain ⟨y290, hy290⟩ : ∃ y_ : List (S60), y_ = (x7_1 ++ [(⟨x8_1, t289⟩ : S60)]) := ⟨_, rfl⟩
      replace H : (metrolabref26_Trials.l0 k1 a0 a1 a2 y290 (wrap64 (x8_1 + 1))) = some r := by first | (rw [hy290]; with_reducible exact H) | (have H2_ := (Option.bind_some _ _).symm.trans H; rw [hy290]; with_reducible exact H2_) | (have H2_ := (Option.bind_some _ _).symm.trans H; with_reducible exact H2_) | with_reducible exact H | (rw [hy290]; exact H) | exact H
      have Ny290 := Aside0.mk hy290
      clear hy290
      have H' := Aside0.mk H
      clear H
      go_wp2_with (first | (refine gz (f := 98) rfl (some 17) rfl Tryz.func98 (metrolabref01_Chosen.calls a0 x8_1 t285 _ A5.out) ?_; rintro w17 hb; have n0_ := Aside0.mk (Kd.R_below z21_ hb); have n1_ := Aside0.mk (below_step z10_ hb); clear HO_7; clear HB; have HO_7 := n0_; have HB := n1_; clear n0_ n1_; (try clear hb); (try clear hb2); (try clear hk); (try clear hi)) | (refine gz (f := 99) rfl (some 20) rfl Tryz.func99 (metrolabref26_Power.calls k1 a1 x8_1 t286 _ A6.out) ?_; rintro w18 hb; have n0_ := Aside0.mk (Kd.R_below z21_ hb); have n1_ := Aside0.mk (below_step z10_ hb); clear HO_7; clear HB; have HO_7 := n0_; have HB := n1_; clear n0_ n1_; (try clear hb); (try clear hb2); (try clear hk); (try clear hi)) | (refine gz (f := 99) rfl (some 27) rfl Tryz.func99 (metrolabref26_Power.calls k1 (wrap64 (a2 - a1)) (wrap64 (a0 - x8_1)) t287 _ A7.out) ?_; rintro w19 hb; have n0_ := Aside0.mk (Kd.R_below z21_ hb); have n1_ := Aside0.mk (below_step z10_ hb); clear HO_7; clear HB; have HO_7 := n0_; have HB := n1_; clear n0_ n1_; (try clear hb); (try clear hb2); (try clear hk); (try clear hi)) | (refine gz (f := 97) rfl (some 28) rfl Tryz.func97 (metrolabref01_Times.calls t286 t287 t288 _ A8.out) ?_; rintro w20 hb; have n0_ := Aside0.mk (Kd.R_below z21_ hb); have n1_ := Aside0.mk (below_step z10_ hb); clear HO_7; clear HB; have HO_7 := n0_; have HB := n1_; clear n0_ n1_; (try clear hb); (try clear hb2); (try clear hk); (try clear hi)) | (refine gz (f := 97) rfl (some 29) rfl Tryz.func97 (metrolabref01_Times.calls t285 t288 t289 _ A9.out) ?_; rintro w21 hb; have n0_ := Aside0.mk (Kd.R_below z21_ hb); have n1_ := Aside0.mk (below_step z10_ hb); clear HO_7; clear HB; have HO_7 := n0_; have HB := n1_; clear n0_ n1_; (try clear hb); (try clear hb2); (try clear hk); (try clear hi)) | ((with_reducible refine gate_builtin (b := .append) (xs := #[.tmp 32, .tmp 36]) rfl ?_); at_builtin; refine Kd.R_append k60 (w0 := w) w.heap.size rfl (.tmp 32) (.tmp 36) 22 60 (.agg #[(.int .i64 0), (.string ⟨#[]⟩)]) 24 rfl Tryz.underlying22 info60 rfl (by decide) (by omega) u7 x7_1 (⟨x8_1, t289⟩ : S60) [.int .i64 x8_1, .string t289] (fun _ => True) (fun _ => False) rfl rfl ?aP (fun _ hk => hk.elim) ?aF ?aO ?aB ?aS ?aL ?_; (case aP => exact k60_mkM _ _ _ (⟨x8_1, t289⟩ : S60)); (case aB => exact z10_); (case aF => exact (fun _ _ => trivial)); (case aO => exact z21_); (case aS => exact (below_size z10_)); (case aL => have := LMc16.out; omega); intro v291 w22 ho hb hg hat; rw [← Ny290.out] at ho; have n0_ := Aside0.mk (hb); have n1_ := Aside0.mk (ho); clear HB; clear HO_7; have HB := n0_; have HO292 := n1_; clear n0_ n1_; clear ho hb hg hat))
      go_roundg k1
      case measure => have := HK1.out; omega
      case rel => exact ⟨(y290), (wrap64 (x8_1 + 1)), z25_, H', ⟨by have := HK1.out; omega⟩, ⟨by (with_reducible repeat (first | apply Kd.R_alloc | apply Kd.R_drewN | apply Kd.R_drew)); first | exact HO292.out | (simp only [w64_m256]; exact HO292.out)⟩, ⟨by repeat (first | (with_reducible first | exact HB.out | apply below_alloc | apply pw_below_drewN | apply below_drew1) | exact HB.out)⟩⟩
     ·rw [if_neg c16] at H
      exact absurd H (by simp)
   ·rw [if_neg c4] at H
    have c4b0 : decide (x8_1 ≤ a0) = false := decide_eq_false c4
    clear c4
    obtain rfl := Option.some.inj H
    go_wp2
    go_ret
    exact ⟨_, z24_, by (with_reducible repeat (first | apply Kd.R_alloc | apply Kd.R_drewN | apply Kd.R_drew)); exact HO_7.out, z10_⟩
mutual
def metrolabref26_Binomial.j0 : Nat → Int → Int → Int → Bool → Option ((List (S60)) × Int)
 | 0, _, _, _, _ => none
 | k + 1, x0, x1, x2, x32 => if x32 = true then (some (([] : List (S60)), 2)) else ((metrolabref26_Trials.f k x0 x1 x2).bind fun t293 => (metrolabref26_Binomial.l0 k t293 0))
def metrolabref26_Binomial.l0 : Nat → List (S60) → Int → Option ((List (S60)) × Int)
 | 0, _, _ => none
 | k + 1, x8, x9 => if x9 < (x8.length : Int) then (if 0 ≤ x9 then ((metrolabref01_Check.f ((rd_T60 x8 x9).f1)).bind fun t297 => (if t297 = 0 then (metrolabref26_Binomial.l0 k x8 (wrap64 (x9 + 1))) else (some (([] : List (S60)), 11)))) else (none)) else (some (x8, 0))
end
def metrolabref26_Binomial.f (k : Nat) (a0 : Int) (a1 : Int) (a2 : Int) : Option ((List (S60)) × Int) := if a0 < 0 then (metrolabref26_Binomial.j0 k a0 a1 a2 true) else (if a0 > 256 then (metrolabref26_Binomial.j0 k a0 a1 a2 true) else (if a2 < 1 then (metrolabref26_Binomial.j0 k a0 a1 a2 true) else (if a2 > 1048576 then (metrolabref26_Binomial.j0 k a0 a1 a2 true) else (if a1 < 0 then (metrolabref26_Binomial.j0 k a0 a1 a2 true) else (metrolabref26_Binomial.j0 k a0 a1 a2 (decide (a1 > a2)))))))
set_option maxHeartbeats 8000000 in
set_option maxRecDepth 100000 in
theorem metrolabref26_Binomial.calls (k : Nat) (a0 : Int) (a1 : Int) (a2 : Int) (r1 : List (S60)) (r2 : Int) (w : World) (h : metrolabref26_Binomial.f k a0 a1 a2 = some (r1, r2)) :
  Calls Tryz.prog 25 #[.int .i64 a0, .int .i64 a1, .int .i64 a2] w fun e w' => ∃ v0_ : Value, e = .returned (.tuple #[v0_, .int .i64 r2]) ∧ Kd.R k60 60 w' w.heap.size (fun _ => True) v0_ r1 ∧ Below w.heap.size w w' := by
 have HB := Aside0.mk (Below.refl w.heap.size w)
 have H : (if a0 < 0 then (metrolabref26_Binomial.j0 k a0 a1 a2 true) else (if a0 > 256 then (metrolabref26_Binomial.j0 k a0 a1 a2 true) else (if a2 < 1 then (metrolabref26_Binomial.j0 k a0 a1 a2 true) else (if a2 > 1048576 then (metrolabref26_Binomial.j0 k a0 a1 a2 true) else (if a1 < 0 then (metrolabref26_Binomial.j0 k a0 a1 a2 true) else (metrolabref26_Binomial.j0 k a0 a1 a2 (decide (a1 > a2)))))))) = some (r1, r2) := h
 clear h
 have HC4 := Aside0.mk H
 clear H
 go_enter Tryz.func25, Tryz.ntmps25
 go_upto_region 1 with (fail)
 go_cut [32] (fun v32 wc => ∃ (kq : Nat) (x32_3 : Bool), v32 = .bool x32_3 ∧ Aside0 (metrolabref26_Binomial.j0 kq a0 a1 a2 x32_3 = some (r1, r2)) ∧ Aside0 (kq ≤ k) ∧ Aside0 (Below w.heap.size w wc))
 case first =>
  have H := HC4.out
  clear HC4
  by_cases c5 : a0 < 0
  ·rw [if_pos c5] at H
   have c5b0 : decide (a0 < 0) = true := decide_eq_true c5
   clear c5
   (first | rw [c5b0] | (simp only [i64_w, i32_w]; rw [c5b0]) | skip)
   have H' := Aside0.mk H
   clear H
   go_wp2
   go_meet
   case rel => exact ⟨_, (true), z25_, H', ⟨by first | omega | exact Nat.le_refl _⟩, ⟨by repeat (first | (with_reducible first | exact HB.out | apply below_alloc | apply pw_below_drewN | apply below_drew1) | exact HB.out)⟩⟩
  ·rw [if_neg c5] at H
   have c5b0 : decide (a0 < 0) = false := decide_eq_false c5
   clear c5
   (first | rw [c5b0] | (simp only [i64_w, i32_w]; rw [c5b0]) | skip)
   by_cases c6 : a0 > 256
   ·rw [if_pos c6] at H
    have c6b0 : decide (256 < a0) = true := decide_eq_true c6
    clear c6
    have H' := Aside0.mk H
    clear H
    go_wp2
    go_meet
    case rel => exact ⟨_, (true), z25_, H', ⟨by first | omega | exact Nat.le_refl _⟩, ⟨by repeat (first | (with_reducible first | exact HB.out | apply below_alloc | apply pw_below_drewN | apply below_drew1) | exact HB.out)⟩⟩
   ·rw [if_neg c6] at H
    have c6b0 : decide (256 < a0) = false := decide_eq_false c6
    clear c6
    by_cases c7 : a2 < 1
    ·rw [if_pos c7] at H
     have c7b0 : decide (a2 < 1) = true := decide_eq_true c7
     clear c7
     have H' := Aside0.mk H
     clear H
     go_wp2
     go_meet
     case rel => exact ⟨_, (true), z25_, H', ⟨by first | omega | exact Nat.le_refl _⟩, ⟨by repeat (first | (with_reducible first | exact HB.out | apply below_alloc | apply pw_below_drewN | apply below_drew1) | exact HB.out)⟩⟩
    ·rw [if_neg c7] at H
     have c7b0 : decide (a2 < 1) = false := decide_eq_false c7
     clear c7
     by_cases c8 : a2 > 1048576
     ·rw [if_pos c8] at H
      have c8b0 : decide (1048576 < a2) = true := decide_eq_true c8
      clear c8
      have H' := Aside0.mk H
      clear H
      go_wp2
      go_meet
      case rel => exact ⟨_, (true), z25_, H', ⟨by first | omega | exact Nat.le_refl _⟩, ⟨by repeat (first | (with_reducible first | exact HB.out | apply below_alloc | apply pw_below_drewN | apply below_drew1) | exact HB.out)⟩⟩
     ·rw [if_neg c8] at H
      have c8b0 : decide (1048576 < a2) = false := decide_eq_false c8
      clear c8
      by_cases c9 : a1 < 0
      ·rw [if_pos c9] at H
       have c9b0 : decide (a1 < 0) = true := decide_eq_true c9
       clear c9
       have H' := Aside0.mk H
       clear H
       go_wp2
       go_meet
       case rel => exact ⟨_, (true), z25_, H', ⟨by first | omega | exact Nat.le_refl _⟩, ⟨by repeat (first | (with_reducible first | exact HB.out | apply below_alloc | apply pw_below_drewN | apply below_drew1) | exact HB.out)⟩⟩
      ·rw [if_neg c9] at H
       have c9b0 : decide (a1 < 0) = false := decide_eq_false c9
       clear c9
       have H' := Aside0.mk H
       clear H
       go_wp2
       go_meet
       case rel => exact ⟨_, (decide (a1 > a2)), z25_, H', ⟨by first | omega | exact Nat.le_refl _⟩, ⟨by repeat (first | (with_reducible first | exact HB.out | apply below_alloc | apply pw_below_drewN | apply below_drew1) | exact HB.out)⟩⟩
 case rest =>
  clear HC4
  try clear c2
  try clear p2
  try clear c5
  try clear c5b0
  try clear c6
  try clear c6b0
  try clear c7
  try clear c7b0
  try clear c8
  try clear c8b0
  try clear c9
  try clear c9b0
  obtain ⟨kq, x32_3, rfl, HA, HJ3, HB⟩ := hcut
  cases kq with
  | zero => exact absurd HA.out (by simp [metrolabref26_Binomial.j0])
  | succ kj3 =>
   have H := HA.out
   clear HA
   simp only [metrolabref26_Binomial.j0] at H
   by_cases c10 : x32_3 = true
   ·subst c10
    rw [if_pos rfl] at H
    simp only [Option.some.injEq, Prod.mk.injEq] at H
    obtain ⟨rfl, rfl⟩ := H
    go_wp2
    go_ret2
    exact ⟨_, z24_, by first | exact Kd.R_nil _ _ _ _ _ | exact Kd.N_nil _ _ _ _ _ | exact Kd.V_nil _ _ _ _ _ | exact Kd.Q_nil _ _ _ _ _ | exact Kd.S_nil _ _ _ _ _, z10_⟩
   ·replace c10 := Bool.eq_false_iff.mpr c10
    subst c10
    rw [if_neg (show ¬ (false = true) by decide)] at H
    obtain ⟨t293, A11, H⟩ := bindA H
    have H' := Aside0.mk H
    clear H
    go_wp2_with (first | ((with_reducible refine gate_callee (f := 57) rfl ?_); refine goesL_ (some 36) rfl rfl Tryz.func57 (by kernel_rfl) rfl #[.int .i64 a0, .int .i64 a1, .int .i64 a2] rfl z9_ ?_; (with_reducible refine (metrolabref26_Trials.calls kj3 a0 a1 a2 t293 _ A11.out).mono ?_); rintro e w12 ⟨v294, rfl, ho0, hb⟩; refine ⟨_, rfl, ?_⟩; have n0_ := Aside0.mk (Kd.R_lower ho0 (below_size z10_)); have n1_ := Aside0.mk (below_step z10_ hb); clear HB; have HO295 := n0_; have HB := n1_; clear n0_ n1_; (try clear hb); (try clear hb2); (try clear hk); (try clear hi); (try clear ho0)))
    go_loopg [9] kj3 (fun kq v9 w' => ∃ (x9_2 : Int), v9 = .int .i64 x9_2 ∧ Aside0 (metrolabref26_Binomial.l0 kq t293 x9_2 = some (r1, r2)) ∧ Aside0 (kq ≤ kj3) ∧ Aside0 (Kd.R k60 60 w' w.heap.size (fun _ => True) v294 t293) ∧ Aside0 (Below w.heap.size w w'))
    case atStart => exact ⟨(0), z25_, H', ⟨Nat.le_refl _⟩, ⟨by (with_reducible repeat (first | apply Kd.R_alloc | apply Kd.R_drewN | apply Kd.R_drew)); first | exact HO295.out | (simp only [w64_m256]; exact HO295.out)⟩, ⟨by repeat (first | (with_reducible first | exact HB.out | apply below_alloc | apply pw_below_drewN | apply below_drew1) | exact HB.out)⟩⟩
    case round =>
     clear H'
     try clear c1
     try clear c2
     try clear p2
     try clear c5
     try clear c5b0
     try clear c6
     try clear c6b0
     try clear c7
     try clear c7b0
     try clear c8
     try clear c8b0
     try clear c9
     try clear c9b0
     try clear c10
     try clear p2
     obtain ⟨x9_2, rfl, HA, HK2, HO_8, HB⟩ := hrel
     cases gk with
     | zero => exact absurd HA.out (by simp [metrolabref26_Binomial.l0])
     | succ k2 =>
      have H := HA.out
      clear HA
      simp only [metrolabref26_Binomial.l0] at H
      by_cases c13 : x9_2 < (t293.length : Int)
      ·rw [if_pos c13] at H
       have c13b0 : decide (x9_2 < (t293.length : Int)) = true := decide_eq_true c13
       clear c13
       by_cases c14 : 0 ≤ x9_2
       ·rw [if_pos c14] at H
        have c14b0 : decide (0 ≤ x9_2) = true := decide_eq_true c14
        clear c14
        obtain ⟨t297, A15, H⟩ := bindA H
        by_cases c16 : t297 = 0
        ·rw [if_pos c16] at H
         have c16b0 := beq_iff_eq.mpr c16
         have c16b1 := bne_eq_false_iff_eq.mpr c16
         clear c16
         have H' := Aside0.mk H
         clear H
         obtain ⟨Ao17, co17, eo17⟩ := Kd.R_slice HO_8.out
         subst eo17
         have p296 : 0 ≤ (x9_2 : Int) := of_decide_eq_true z26_
         have q296 : x9_2 < (t293.length : Int) := of_decide_eq_true z26_
         obtain ⟨ad296, e296, hx296_0, hx296_1⟩ := at_T60 (Kd.R_reads' HO_8.out).2.2 x9_2 p296 q296
         cases e296
         replace p296 := eq_true p296
         replace q296 := eq_true q296
         go_wp2_with (first | (refine gz (f := 51) rfl (some 48) rfl Tryz.func51 (metrolabref01_Check.calls ((rd_T60 t293 x9_2).f1) t297 _ A15.out) ?_; rintro w18 hb; have n0_ := Aside0.mk (Kd.R_below z22_ hb); have n1_ := Aside0.mk (below_step z10_ hb); clear HO_8; clear HB; have HO_8 := n0_; have HB := n1_; clear n0_ n1_; (try clear hb); (try clear hb2); (try clear hk); (try clear hi)))
         go_roundg k2
         case measure => have := HJ3.out; have := HK2.out; omega
         case rel => exact ⟨(wrap64 (x9_2 + 1)), z25_, H', ⟨by have := HJ3.out; have := HK2.out; omega⟩, ⟨by (with_reducible repeat (first | apply Kd.R_alloc | apply Kd.R_drewN | apply Kd.R_drew)); first | exact HO_8.out | (simp only [w64_m256]; exact HO_8.out)⟩, ⟨by repeat (first | (with_reducible first | exact HB.out | apply below_alloc | apply pw_below_drewN | apply below_drew1) | exact HB.out)⟩⟩
        ·rw [if_neg c16] at H
         have c16b0 := beq_eq_false_iff_ne.mpr c16
         have c16b1 := bne_iff_ne.mpr c16
         simp only [Option.some.injEq, Prod.mk.injEq] at H
         obtain ⟨rfl, rfl⟩ := H
         obtain ⟨Ao19, co19, eo19⟩ := Kd.R_slice HO_8.out
         subst eo19
         have p296 : 0 ≤ (x9_2 : Int) := of_decide_eq_true z26_
         have q296 : x9_2 < (t293.length : Int) := of_decide_eq_true z26_
         obtain ⟨ad296, e296, hx296_0, hx296_1⟩ := at_T60 (Kd.R_reads' HO_8.out).2.2 x9_2 p296 q296
         cases e296
         replace p296 := eq_true p296
         replace q296 := eq_true q296
         go_wp2_with (first | (refine gz (f := 51) rfl (some 48) rfl Tryz.func51 (metrolabref01_Check.calls ((rd_T60 t293 x9_2).f1) t297 _ A15.out) ?_; rintro w20 hb; have n0_ := Aside0.mk (Kd.R_below z22_ hb); have n1_ := Aside0.mk (below_step z10_ hb); clear HO_8; clear HB; have HO_8 := n0_; have HB := n1_; clear n0_ n1_; (try clear hb); (try clear hb2); (try clear hk); (try clear hi)))
         go_ret2
         exact ⟨_, z24_, by first | exact Kd.R_nil _ _ _ _ _ | exact Kd.N_nil _ _ _ _ _ | exact Kd.V_nil _ _ _ _ _ | exact Kd.Q_nil _ _ _ _ _ | exact Kd.S_nil _ _ _ _ _, z10_⟩
       ·rw [if_neg c14] at H
        exact absurd H (by simp)
      ·rw [if_neg c13] at H
       have c13b0 : decide (x9_2 < (t293.length : Int)) = false := decide_eq_false c13
       clear c13
       simp only [Option.some.injEq, Prod.mk.injEq] at H
       obtain ⟨rfl, rfl⟩ := H
       obtain ⟨Ao21, co21, eo21⟩ := Kd.R_slice HO_8.out
       subst eo21
       go_wp2
       go_ret2
       exact ⟨_, z24_, by (with_reducible repeat (first | apply Kd.R_alloc | apply Kd.R_drewN | apply Kd.R_drew)); exact HO_8.out, z10_⟩
def metrolablaw26_DistMakes.j0 : Nat → Int → Int → Int → Bool → Option (Bool)
 | 0, _, _, _, _ => none
 | k + 1, x0, x1, x2, x53 => if x53 = true then ((metrolablaw26_awake.f k).bind fun t298 => (some t298)) else ((dist_Uniform.f k x0 x1 x2).bind fun bt299 => ((metrolabref26_Uniform.f k x0 x1 x2).bind fun bt303 => ((dist_Binomial.f k x0 x1 x2).bind fun bt307 => ((metrolabref26_Binomial.f k x0 x1 x2).bind fun bt311 => ((metrolablaw26_awake.f k).bind fun t315 => (if t315 = true then ((metrolabref26_Same.f k bt299.1 bt303.1).bind fun t316 => (if t316 = true then (if bt299.2 = bt303.2 then ((metrolabref26_Same.f k bt307.1 bt311.1).bind fun t317 => (if t317 = true then (some (bt307.2 == bt311.2)) else (some false))) else (some false)) else (some false))) else (some false)))))))
def metrolablaw26_DistMakes.f (k : Nat) (a0 : Int) (a1 : Int) (a2 : Int) : Option (Bool) := if a0 ≥ (-300) then (if a1 ≥ a0 then (if a2 > 0 then (if a2 < 5000 then (if (wrap64 (a1 - a0)) > (wrap64 (100 * a2)) then (if (wrap64 (a1 - a0)) < (wrap64 (4096 * a2)) then (metrolablaw26_DistMakes.j0 k a0 a1 a2 true) else (if a0 > 30 then (metrolablaw26_DistMakes.j0 k a0 a1 a2 (decide (a0 ≤ 256))) else (metrolablaw26_DistMakes.j0 k a0 a1 a2 false))) else (if a0 > 30 then (metrolablaw26_DistMakes.j0 k a0 a1 a2 (decide (a0 ≤ 256))) else (metrolablaw26_DistMakes.j0 k a0 a1 a2 false))) else (if a0 > 30 then (metrolablaw26_DistMakes.j0 k a0 a1 a2 (decide (a0 ≤ 256))) else (metrolablaw26_DistMakes.j0 k a0 a1 a2 false))) else (if a0 > 30 then (metrolablaw26_DistMakes.j0 k a0 a1 a2 (decide (a0 ≤ 256))) else (metrolablaw26_DistMakes.j0 k a0 a1 a2 false))) else (if a0 > 30 then (metrolablaw26_DistMakes.j0 k a0 a1 a2 (decide (a0 ≤ 256))) else (metrolablaw26_DistMakes.j0 k a0 a1 a2 false))) else (if a0 > 30 then (metrolablaw26_DistMakes.j0 k a0 a1 a2 (decide (a0 ≤ 256))) else (metrolablaw26_DistMakes.j0 k a0 a1 a2 false))
set_option maxHeartbeats 8000000 in
set_option maxRecDepth 100000 in
theorem metrolablaw26_DistMakes.calls (k : Nat) (a0 : Int) (a1 : Int) (a2 : Int) (r : Bool) (hr_ : r = true) (w : World) (h : metrolablaw26_DistMakes.f k a0 a1 a2 = some r) (HT : Aside0 (Tabs w)) :
  Calls Tryz.prog 5 #[.int .i64 a0, .int .i64 a1, .int .i64 a2] w fun e w' => e = .returned (.bool r) ∧ Below w.heap.size w w' := by
 subst hr_
 have HB := Aside0.mk (Below.refl w.heap.size w)
 have H : (if a0 ≥ (-300) then (if a1 ≥ a0 then (if a2 > 0 then (if a2 < 5000 then (if (wrap64 (a1 - a0)) > (wrap64 (100 * a2)) then (if (wrap64 (a1 - a0)) < (wrap64 (4096 * a2)) then (metrolablaw26_DistMakes.j0 k a0 a1 a2 true) else (if a0 > 30 then (metrolablaw26_DistMakes.j0 k a0 a1 a2 (decide (a0 ≤ 256))) else (metrolablaw26_DistMakes.j0 k a0 a1 a2 false))) else (if a0 > 30 then (metrolablaw26_DistMakes.j0 k a0 a1 a2 (decide (a0 ≤ 256))) else (metrolablaw26_DistMakes.j0 k a0 a1 a2 false))) else (if a0 > 30 then (metrolablaw26_DistMakes.j0 k a0 a1 a2 (decide (a0 ≤ 256))) else (metrolablaw26_DistMakes.j0 k a0 a1 a2 false))) else (if a0 > 30 then (metrolablaw26_DistMakes.j0 k a0 a1 a2 (decide (a0 ≤ 256))) else (metrolablaw26_DistMakes.j0 k a0 a1 a2 false))) else (if a0 > 30 then (metrolablaw26_DistMakes.j0 k a0 a1 a2 (decide (a0 ≤ 256))) else (metrolablaw26_DistMakes.j0 k a0 a1 a2 false))) else (if a0 > 30 then (metrolablaw26_DistMakes.j0 k a0 a1 a2 (decide (a0 ≤ 256))) else (metrolablaw26_DistMakes.j0 k a0 a1 a2 false))) = some true := h
 clear h
 have HC4 := Aside0.mk H
 clear H
 go_enter Tryz.func5, Tryz.ntmps5
 go_upto_region 1 with (fail)
 go_cut [53] (fun v53 wc => ∃ (kq : Nat) (x53_3 : Bool), v53 = .bool x53_3 ∧ Aside0 (metrolablaw26_DistMakes.j0 kq a0 a1 a2 x53_3 = some true) ∧ Aside0 (kq ≤ k) ∧ Aside0 (Below w.heap.size w wc))
 case first =>
  have H := HC4.out
  clear HC4
  by_cases c5 : a0 ≥ (-300)
  ·rw [if_pos c5] at H
   have c5b0 : decide ((-300) ≤ a0) = true := decide_eq_true c5
   clear c5
   (first | rw [c5b0] | (simp only [i64_w, i32_w]; rw [c5b0]) | skip)
   by_cases c6 : a1 ≥ a0
   ·rw [if_pos c6] at H
    have c6b0 : decide (a0 ≤ a1) = true := decide_eq_true c6
    clear c6
    by_cases c7 : a2 > 0
    ·rw [if_pos c7] at H
     have c7b0 : decide (0 < a2) = true := decide_eq_true c7
     clear c7
     by_cases c8 : a2 < 5000
     ·rw [if_pos c8] at H
      have c8b0 : decide (a2 < 5000) = true := decide_eq_true c8
      clear c8
      by_cases c9 : (wrap64 (a1 - a0)) > (wrap64 (100 * a2))
      ·rw [if_pos c9] at H
       have c9b0 : decide ((wrap64 (100 * a2)) < (wrap64 (a1 - a0))) = true := decide_eq_true c9
       clear c9
       by_cases c10 : (wrap64 (a1 - a0)) < (wrap64 (4096 * a2))
       ·rw [if_pos c10] at H
        have c10b0 : decide ((wrap64 (a1 - a0)) < (wrap64 (4096 * a2))) = true := decide_eq_true c10
        clear c10
        have H' := Aside0.mk H
        clear H
        go_wp2
        go_meet
        case rel => exact ⟨_, (true), z25_, H', ⟨by first | omega | exact Nat.le_refl _⟩, ⟨by repeat (first | (with_reducible first | exact HB.out | apply below_alloc | apply pw_below_drewN | apply below_drew1) | exact HB.out)⟩⟩
       ·rw [if_neg c10] at H
        have c10b0 : decide ((wrap64 (a1 - a0)) < (wrap64 (4096 * a2))) = false := decide_eq_false c10
        clear c10
        by_cases c11 : a0 > 30
        ·rw [if_pos c11] at H
         have c11b0 : decide (30 < a0) = true := decide_eq_true c11
         clear c11
         have H' := Aside0.mk H
         clear H
         go_wp2
         go_meet
         case rel => exact ⟨_, (decide (a0 ≤ 256)), z25_, H', ⟨by first | omega | exact Nat.le_refl _⟩, ⟨by repeat (first | (with_reducible first | exact HB.out | apply below_alloc | apply pw_below_drewN | apply below_drew1) | exact HB.out)⟩⟩
        ·rw [if_neg c11] at H
         have c11b0 : decide (30 < a0) = false := decide_eq_false c11
         clear c11
         have H' := Aside0.mk H
         clear H
         go_wp2
         go_meet
         case rel => exact ⟨_, (false), z25_, H', ⟨by first | omega | exact Nat.le_refl _⟩, ⟨by repeat (first | (with_reducible first | exact HB.out | apply below_alloc | apply pw_below_drewN | apply below_drew1) | exact HB.out)⟩⟩
      ·rw [if_neg c9] at H
       have c9b0 : decide ((wrap64 (100 * a2)) < (wrap64 (a1 - a0))) = false := decide_eq_false c9
       clear c9
       by_cases c12 : a0 > 30
       ·rw [if_pos c12] at H
        have c12b0 : decide (30 < a0) = true := decide_eq_true c12
        clear c12
        have H' := Aside0.mk H
        clear H
        go_wp2
        go_meet
        case rel => exact ⟨_, (decide (a0 ≤ 256)), z25_, H', ⟨by first | omega | exact Nat.le_refl _⟩, ⟨by repeat (first | (with_reducible first | exact HB.out | apply below_alloc | apply pw_below_drewN | apply below_drew1) | exact HB.out)⟩⟩
       ·rw [if_neg c12] at H
        have c12b0 : decide (30 < a0) = false := decide_eq_false c12
        clear c12
        have H' := Aside0.mk H
        clear H
        go_wp2
        go_meet
        case rel => exact ⟨_, (false), z25_, H', ⟨by first | omega | exact Nat.le_refl _⟩, ⟨by repeat (first | (with_reducible first | exact HB.out | apply below_alloc | apply pw_below_drewN | apply below_drew1) | exact HB.out)⟩⟩
     ·rw [if_neg c8] at H
      have c8b0 : decide (a2 < 5000) = false := decide_eq_false c8
      clear c8
      by_cases c13 : a0 > 30
      ·rw [if_pos c13] at H
       have c13b0 : decide (30 < a0) = true := decide_eq_true c13
       clear c13
       have H' := Aside0.mk H
       clear H
       go_wp2
       go_meet
       case rel => exact ⟨_, (decide (a0 ≤ 256)), z25_, H', ⟨by first | omega | exact Nat.le_refl _⟩, ⟨by repeat (first | (with_reducible first | exact HB.out | apply below_alloc | apply pw_below_drewN | apply below_drew1) | exact HB.out)⟩⟩
      ·rw [if_neg c13] at H
       have c13b0 : decide (30 < a0) = false := decide_eq_false c13
       clear c13
       have H' := Aside0.mk H
       clear H
       go_wp2
       go_meet
       case rel => exact ⟨_, (false), z25_, H', ⟨by first | omega | exact Nat.le_refl _⟩, ⟨by repeat (first | (with_reducible first | exact HB.out | apply below_alloc | apply pw_below_drewN | apply below_drew1) | exact HB.out)⟩⟩
    ·rw [if_neg c7] at H
     have c7b0 : decide (0 < a2) = false := decide_eq_false c7
     clear c7
     by_cases c14 : a0 > 30
     ·rw [if_pos c14] at H
      have c14b0 : decide (30 < a0) = true := decide_eq_true c14
      clear c14
      have H' := Aside0.mk H
      clear H
      go_wp2
      go_meet
      case rel => exact ⟨_, (decide (a0 ≤ 256)), z25_, H', ⟨by first | omega | exact Nat.le_refl _⟩, ⟨by repeat (first | (with_reducible first | exact HB.out | apply below_alloc | apply pw_below_drewN | apply below_drew1) | exact HB.out)⟩⟩
     ·rw [if_neg c14] at H
      have c14b0 : decide (30 < a0) = false := decide_eq_false c14
      clear c14
      have H' := Aside0.mk H
      clear H
      go_wp2
      go_meet
      case rel => exact ⟨_, (false), z25_, H', ⟨by first | omega | exact Nat.le_refl _⟩, ⟨by repeat (first | (with_reducible first | exact HB.out | apply below_alloc | apply pw_below_drewN | apply below_drew1) | exact HB.out)⟩⟩
   ·rw [if_neg c6] at H
    have c6b0 : decide (a0 ≤ a1) = false := decide_eq_false c6
    clear c6
    by_cases c15 : a0 > 30
    ·rw [if_pos c15] at H
     have c15b0 : decide (30 < a0) = true := decide_eq_true c15
     clear c15
     have H' := Aside0.mk H
     clear H
     go_wp2
     go_meet
     case rel => exact ⟨_, (decide (a0 ≤ 256)), z25_, H', ⟨by first | omega | exact Nat.le_refl _⟩, ⟨by repeat (first | (with_reducible first | exact HB.out | apply below_alloc | apply pw_below_drewN | apply below_drew1) | exact HB.out)⟩⟩
    ·rw [if_neg c15] at H
     have c15b0 : decide (30 < a0) = false := decide_eq_false c15
     clear c15
     have H' := Aside0.mk H
     clear H
     go_wp2
     go_meet
     case rel => exact ⟨_, (false), z25_, H', ⟨by first | omega | exact Nat.le_refl _⟩, ⟨by repeat (first | (with_reducible first | exact HB.out | apply below_alloc | apply pw_below_drewN | apply below_drew1) | exact HB.out)⟩⟩
  ·rw [if_neg c5] at H
   have c5b0 : decide ((-300) ≤ a0) = false := decide_eq_false c5
   clear c5
   (first | rw [c5b0] | (simp only [i64_w, i32_w]; rw [c5b0]) | skip)
   by_cases c16 : a0 > 30
   ·rw [if_pos c16] at H
    have c16b0 : decide (30 < a0) = true := decide_eq_true c16
    clear c16
    have H' := Aside0.mk H
    clear H
    go_wp2
    go_meet
    case rel => exact ⟨_, (decide (a0 ≤ 256)), z25_, H', ⟨by first | omega | exact Nat.le_refl _⟩, ⟨by repeat (first | (with_reducible first | exact HB.out | apply below_alloc | apply pw_below_drewN | apply below_drew1) | exact HB.out)⟩⟩
   ·rw [if_neg c16] at H
    have c16b0 : decide (30 < a0) = false := decide_eq_false c16
    clear c16
    have H' := Aside0.mk H
    clear H
    go_wp2
    go_meet
    case rel => exact ⟨_, (false), z25_, H', ⟨by first | omega | exact Nat.le_refl _⟩, ⟨by repeat (first | (with_reducible first | exact HB.out | apply below_alloc | apply pw_below_drewN | apply below_drew1) | exact HB.out)⟩⟩
 case rest =>
  clear HC4
  try clear c1
  try clear p2
  try clear c5
  try clear c5b0
  try clear c6
  try clear c6b0
  try clear p6
  try clear c7
  try clear c7b0
  try clear c8
  try clear c8b0
  try clear c9
  try clear c9b0
  try clear c10
  try clear c10b0
  try clear c11
  try clear c11b0
  try clear c12
  try clear c12b0
  try clear c13
  try clear c13b0
  try clear c14
  try clear c14b0
  try clear c15
  try clear c15b0
  try clear c16
  try clear c16b0
  obtain ⟨kq, x53_3, rfl, HA, HJ3, HB⟩ := hcut
  cases kq with
  | zero => exact absurd HA.out (by simp [metrolablaw26_DistMakes.j0])
  | succ kj3 =>
   have H := HA.out
   clear HA
   simp only [metrolablaw26_DistMakes.j0] at H
   by_cases c17 : x53_3 = true
   ·subst c17
    rw [if_pos rfl] at H
    obtain ⟨t298, A18, H⟩ := bindA H
    obtain rfl : t298 = true := Option.some.inj H
    go_wp2_with (first | (refine gy (f := 9) rfl (some 54) rfl Tryz.func9 (metrolablaw26_awake.calls kj3 true rfl _ A18.out (Aside0.mk (Tabs.below HT.out z4_))) z10_ ?_; clear HB; intro w19 HB))
    go_ret
    exact ⟨z24_, z10_⟩
   ·replace c17 := Bool.eq_false_iff.mpr c17
    subst c17
    rw [if_neg (show ¬ (false = true) by decide)] at H
    obtain ⟨⟨t299, t300⟩, A20, H⟩ := bindA H
    dsimp only at H
    obtain ⟨⟨t303, t304⟩, A21, H⟩ := bindA H
    dsimp only at H
    obtain ⟨⟨t307, t308⟩, A22, H⟩ := bindA H
    dsimp only at H
    obtain ⟨⟨t311, t312⟩, A23, H⟩ := bindA H
    dsimp only at H
    obtain ⟨t315, A24, H⟩ := bindA H
    by_cases c25 : t315 = true
    ·subst c25
     rw [if_pos rfl] at H
     obtain ⟨t316, A26, H⟩ := bindA H
     by_cases c27 : t316 = true
     ·subst c27
      rw [if_pos rfl] at H
      by_cases c28 : t300 = t304
      ·rw [if_pos c28] at H
       have c28b0 := beq_iff_eq.mpr c28
       have c28b1 := bne_eq_false_iff_eq.mpr c28
       clear c28
       obtain ⟨t317, A29, H⟩ := bindA H
       by_cases c30 : t317 = true
       ·subst c30
        rw [if_pos rfl] at H
        have hE_ := Option.some.inj H
        go_wp2_with (first | ((with_reducible refine gate_callee (f := 22) rfl ?_); refine goesL_ (some 59) rfl rfl Tryz.func22 (by kernel_rfl) rfl #[.int .i64 a0, .int .i64 a1, .int .i64 a2] rfl z9_ ?_; (with_reducible refine (dist_Uniform.calls kj3 a0 a1 a2 t299 t300 _ A20.out).mono ?_); rintro e w31 ⟨v301, rfl, ho0, hb⟩; refine ⟨_, rfl, ?_⟩; have n0_ := Aside0.mk (Kd.R_lower ho0 (below_size z10_)); have n1_ := Aside0.mk (below_step z10_ hb); clear HB; have HO302 := n0_; have HB := n1_; clear n0_ n1_; (try clear hb); (try clear hb2); (try clear hk); (try clear hi); (try clear ho0)) | ((with_reducible refine gate_callee (f := 23) rfl ?_); refine goesL_ (some 66) rfl rfl Tryz.func23 (by kernel_rfl) rfl #[.int .i64 a0, .int .i64 a1, .int .i64 a2] rfl z9_ ?_; (with_reducible refine (metrolabref26_Uniform.calls kj3 a0 a1 a2 t303 t304 _ A21.out).mono ?_); rintro e w32 ⟨v305, rfl, ho0, hb⟩; refine ⟨_, rfl, ?_⟩; have n0_ := Aside0.mk (Kd.R_elder' z14_ (Kd.R_base ho0) hb); have n1_ := Aside0.mk (Kd.R_lower (Kd.R_new' ho0 (Kd.R_lt z14_)) (below_size z10_)); have n2_ := Aside0.mk (below_step z10_ hb); clear HO302; clear HB; have HO302 := n0_; have HO306 := n1_; have HB := n2_; clear n0_ n1_ n2_; (try clear hb); (try clear hb2); (try clear hk); (try clear hi); (try clear ho0)) | ((with_reducible refine gate_callee (f := 24) rfl ?_); refine goesL_ (some 73) rfl rfl Tryz.func24 (by kernel_rfl) rfl #[.int .i64 a0, .int .i64 a1, .int .i64 a2] rfl z9_ ?_; (with_reducible refine (dist_Binomial.calls kj3 a0 a1 a2 t307 t308 _ A22.out (Aside0.mk (Tabs.below HT.out z4_))).mono ?_); rintro e w33 ⟨v309, rfl, ho0, hb⟩; refine ⟨_, rfl, ?_⟩; have n0_ := Aside0.mk (Kd.R_elder' z14_ (Kd.R_base ho0) hb); have n1_ := Aside0.mk (Kd.R_elder' (by (with_reducible repeat (first | apply Kd.R_alloc | apply Kd.R_drewN | apply Kd.R_drew)); exact HO306.out) (Kd.R_base ho0) hb); have n2_ := Aside0.mk (Kd.R_lower (Kd.R_new' (Kd.R_new' ho0 (Kd.R_lt z14_)) (Kd.R_lt (by (with_reducible repeat (first | apply Kd.R_alloc | apply Kd.R_drewN | apply Kd.R_drew)); exact HO306.out))) (below_size z10_)); have n3_ := Aside0.mk (below_step z10_ hb); clear HO302; clear HO306; clear HB; have HO302 := n0_; have HO306 := n1_; have HO310 := n2_; have HB := n3_; clear n0_ n1_ n2_ n3_; (try clear hb); (try clear hb2); (try clear hk); (try clear hi); (try clear ho0)) | ((with_reducible refine gate_callee (f := 25) rfl ?_); refine goesL_ (some 80) rfl rfl Tryz.func25 (by kernel_rfl) rfl #[.int .i64 a0, .int .i64 a1, .int .i64 a2] rfl z9_ ?_; (with_reducible refine (metrolabref26_Binomial.calls kj3 a0 a1 a2 t311 t312 _ A23.out).mono ?_); rintro e w34 ⟨v313, rfl, ho0, hb⟩; refine ⟨_, rfl, ?_⟩; have n0_ := Aside0.mk (Kd.R_elder' z14_ (Kd.R_base ho0) hb); have n1_ := Aside0.mk (Kd.R_elder' (by (with_reducible repeat (first | apply Kd.R_alloc | apply Kd.R_drewN | apply Kd.R_drew)); exact HO306.out) (Kd.R_base ho0) hb); have n2_ := Aside0.mk (Kd.R_elder' (by (with_reducible repeat (first | apply Kd.R_alloc | apply Kd.R_drewN | apply Kd.R_drew)); exact HO310.out) (Kd.R_base ho0) hb); have n3_ := Aside0.mk (Kd.R_lower (Kd.R_new' (Kd.R_new' (Kd.R_new' ho0 (Kd.R_lt z14_)) (Kd.R_lt (by (with_reducible repeat (first | apply Kd.R_alloc | apply Kd.R_drewN | apply Kd.R_drew)); exact HO306.out))) (Kd.R_lt (by (with_reducible repeat (first | apply Kd.R_alloc | apply Kd.R_drewN | apply Kd.R_drew)); exact HO310.out))) (below_size z10_)); have n4_ := Aside0.mk (below_step z10_ hb); clear HO302; clear HO306; clear HO310; clear HB; have HO302 := n0_; have HO306 := n1_; have HO310 := n2_; have HO314 := n3_; have HB := n4_; clear n0_ n1_ n2_ n3_ n4_; (try clear hb); (try clear hb2); (try clear hk); (try clear hi); (try clear ho0)) | (refine gz (f := 9) rfl (some 83) rfl Tryz.func9 (metrolablaw26_awake.calls kj3 true rfl _ A24.out (Aside0.mk (Tabs.below HT.out z4_))) ?_; rintro w35 hb; have n0_ := Aside0.mk (Kd.R_below z14_ hb); have n1_ := Aside0.mk (Kd.R_below (by (with_reducible repeat (first | apply Kd.R_alloc | apply Kd.R_drewN | apply Kd.R_drew)); exact HO306.out) hb); have n2_ := Aside0.mk (Kd.R_below (by (with_reducible repeat (first | apply Kd.R_alloc | apply Kd.R_drewN | apply Kd.R_drew)); exact HO310.out) hb); have n3_ := Aside0.mk (Kd.R_below (by (with_reducible repeat (first | apply Kd.R_alloc | apply Kd.R_drewN | apply Kd.R_drew)); exact HO314.out) hb); have n4_ := Aside0.mk (below_step z10_ hb); clear HO302; clear HO306; clear HO310; clear HO314; clear HB; have HO302 := n0_; have HO306 := n1_; have HO310 := n2_; have HO314 := n3_; have HB := n4_; clear n0_ n1_ n2_ n3_ n4_; (try clear hb); (try clear hb2); (try clear hk); (try clear hi); obtain ⟨Ao36, co36, eo36⟩ := Kd.R_slice HO302.out; subst eo36; obtain ⟨Ao37, co37, eo37⟩ := Kd.R_slice HO306.out; subst eo37) | (go_at_call 26; (with_reducible refine (metrolabref26_Same.calls kj3 _ _ t299 _ _ t303 true _ ?side1 ?side2 ?side3 ?side4 A26.out).mono ?_); (case side1 => repeat (first | exact (Kd.R_reads' HO302.out).2.2 | (with_reducible refine Kd.C_alloc ?_ _) | (with_reducible refine Kd.C_drewN ?_ _) | (with_reducible refine Kd.C_drew ?_))); (case side2 => exact (Kd.R_reads' HO302.out).2.1); (case side3 => repeat (first | exact (Kd.R_reads' HO306.out).2.2 | (with_reducible refine Kd.C_alloc ?_ _) | (with_reducible refine Kd.C_drewN ?_ _) | (with_reducible refine Kd.C_drew ?_))); (case side4 => exact (Kd.R_reads' HO306.out).2.1); rintro e w' ⟨rfl, ⟨nd, rfl⟩⟩; obtain ⟨Ao38, co38, eo38⟩ := Kd.R_slice HO310.out; subst eo38; obtain ⟨Ao39, co39, eo39⟩ := Kd.R_slice HO314.out; subst eo39) | (go_at_call 26; (with_reducible refine (metrolabref26_Same.calls kj3 _ _ t307 _ _ t311 true _ ?side1 ?side2 ?side3 ?side4 A29.out).mono ?_); (case side1 => repeat (first | exact (Kd.R_reads' HO310.out).2.2 | (with_reducible refine Kd.C_alloc ?_ _) | (with_reducible refine Kd.C_drewN ?_ _) | (with_reducible refine Kd.C_drew ?_))); (case side2 => exact (Kd.R_reads' HO310.out).2.1); (case side3 => repeat (first | exact (Kd.R_reads' HO314.out).2.2 | (with_reducible refine Kd.C_alloc ?_ _) | (with_reducible refine Kd.C_drewN ?_ _) | (with_reducible refine Kd.C_drew ?_))); (case side4 => exact (Kd.R_reads' HO314.out).2.1); rintro e w' ⟨rfl, ⟨nd, rfl⟩⟩))
        go_ret
        exact ⟨z24_, z10_⟩
       ·replace c30 := Bool.eq_false_iff.mpr c30
        subst c30
        rw [if_neg (show ¬ (false = true) by decide)] at H
        cases H
      ·rw [if_neg c28] at H
       have c28b0 := beq_eq_false_iff_ne.mpr c28
       have c28b1 := bne_iff_ne.mpr c28
       cases H
     ·replace c27 := Bool.eq_false_iff.mpr c27
      subst c27
      rw [if_neg (show ¬ (false = true) by decide)] at H
      cases H
    ·replace c25 := Bool.eq_false_iff.mpr c25
     subst c25
     rw [if_neg (show ¬ (false = true) by decide)] at H
     cases H
end Go.Proofs.YtkdpcgmnkifbbaaGreatDoor.D
