/- Joined by a program of this session out of its texts, with only what the last theorem needs: Dx12. No conditions but those stated. -/
import Derived.Test.YtkdpcgmnkifbbaaGreatDoorZC07
import Derived.Test.YtkdpcgmnkifbbaaGreatDoorZC35
import Derived.Test.YtkdpcgmnkifbbaaGreatDoorZC37
import Derived.Test.YtkdpcgmnkifbbaaGreatDoorZC29
set_option linter.unusedVariables false
set_option linter.unusedSimpArgs false
namespace Go.Proofs.YtkdpcgmnkifbbaaGreatDoorW.PrintLast
end Go.Proofs.YtkdpcgmnkifbbaaGreatDoorW.PrintLast
namespace Go.Proofs.YtkdpcgmnkifbbaaGreatDoorW.PrintMore
end Go.Proofs.YtkdpcgmnkifbbaaGreatDoorW.PrintMore
namespace Go.Proofs.YtkdpcgmnkifbbaaGreatDoorW.PrintWords
end Go.Proofs.YtkdpcgmnkifbbaaGreatDoorW.PrintWords
namespace Go.Proofs.YtkdpcgmnkifbbaaGreatDoor.D
open Go.RowKit Go.Proofs.YtkdpcgmnkifbbaaGreatDoorW.PrintWords Go.Proofs.YtkdpcgmnkifbbaaGreatDoorW.PrintLast Go.Proofs.YtkdpcgmnkifbbaaGreatDoorW.PrintMore
attribute [local go_sem] max2_int min2_int max_two min_two max_three min_three max_four min_four
set_option linter.unusedVariables false
set_option linter.unusedSimpArgs false
def metrolabref26_Moved.l0 : Nat → List (S60) → Int → Int → List (S60) → Int → Option ((List (S60)))
 | 0, _, _, _, _, _ => none
 | k + 1, x0, x1, x2, x7, x8 => if x8 < (x0.length : Int) then (if 0 ≤ x8 then (if x7.length < 5864062014805 then (metrolabref26_Moved.l0 k x0 x1 x2 (x7 ++ [(⟨wrap64 ((wrap64 (x1 * ((rd_T60 x0 x8).f0))) + x2), (rd_T60 x0 x8).f1⟩ : S60)]) (wrap64 (x8 + 1))) else (none)) else (none)) else ((metrolabref26_Gathered.f k x7).bind fun t378 => (some t378))
def metrolabref26_Moved.f (k : Nat) (l0 : List (S60)) (a1 : Int) (a2 : Int) : Option ((List (S60))) := metrolabref26_Moved.l0 k l0 a1 a2 ([] : List (S60)) 0
def metrolabref26_Moved.T5 : Bool × List (List Nat × List Nat) := (true, [([], []), ([], []), ([], []), ([], []), ([2, 3], [2, 3]), ([4], [4]), ([5], [5]), ([1, 6], [1, 6]), ([], []), ([7, 8], [7, 8]), ([], []), ([], []), ([10, 11], [10, 11]), ([12], [12]), ([13], [13]), ([9, 14], [9, 14]), ([15], [15]), ([0, 16], [0, 16]), ([17, 17, 0, 1, 2, 3, 4, 5, 6, 7, 8, 9, 10, 11, 12, 13, 14, 15, 16, 17], [0, 17])])
def metrolabref26_Moved.B5 : List Nat := [0, 0, 0, 0, 12, 28, 60, 126, 0, 510, 0, 0, 3072, 7168, 15360, 32766, 65534, 131071, 262143]
theorem metrolabref26_Moved.tab5 : rtab .any (opsOf Tryz.f59 5) = metrolabref26_Moved.T5 := by kernel_rfl
theorem metrolabref26_Moved.bits5 : waitsOk metrolabref26_Moved.T5.2 metrolabref26_Moved.B5 = true := by kernel_rfl
set_option maxHeartbeats 8000000 in
set_option maxRecDepth 100000 in
theorem metrolabref26_Moved.calls (k : Nat) (A0 : Option Addr) (c0 : Nat) (l0 : List (S60)) (a1 : Int) (a2 : Int) (r : List (S60)) (w : World) (hr0 : Kd.C k60 w A0 l0.length l0) (hc0 : l0.length ≤ c0) (h : metrolabref26_Moved.f k l0 a1 a2 = some r) :
  Calls Tryz.prog 59 #[.slice A0 l0.length c0, .int .i64 a1, .int .i64 a2] w fun e w' => ∃ v0_ : Value, e = .returned (v0_) ∧ Kd.R k60 60 w' w.heap.size (fun _ => True) v0_ r ∧ Below w.heap.size w w' := by
 have hu60 := Tryz.underlying60
 have HR0 := Aside0.mk hr0
 have HC0 := Aside0.mk hc0
 clear hr0 hc0
 have HB := Aside0.mk (Below.refl w.heap.size w)
 have H : (metrolabref26_Moved.l0 k l0 a1 a2 ([] : List (S60)) 0) = some r := h
 clear h
 have H' := Aside0.mk H
 clear H
 go_enter Tryz.func59, Tryz.ntmps59
 go_wp2
 go_loopg [7, 8] k (fun kq v7 v8 w' => ∃ (x7_1 : List (S60)) (x8_1 : Int), v8 = .int .i64 x8_1 ∧ Aside0 (metrolabref26_Moved.l0 kq l0 a1 a2 x7_1 x8_1 = some r) ∧ Aside0 (kq ≤ k) ∧ Aside0 (Kd.R k60 60 w' w.heap.size (fun _ => True) v7 x7_1) ∧ Aside0 (Below w.heap.size w w'))
 case atStart => exact ⟨(([] : List (S60))), (0), z25_, H', ⟨Nat.le_refl _⟩, ⟨by first | exact Kd.R_nil _ _ _ _ _ | exact Kd.N_nil _ _ _ _ _ | exact Kd.V_nil _ _ _ _ _ | exact Kd.Q_nil _ _ _ _ _ | exact Kd.S_nil _ _ _ _ _⟩, ⟨by repeat (first | (with_reducible first | exact HB.out | apply below_alloc | apply pw_below_drewN | apply below_drew1) | exact HB.out)⟩⟩
 case round =>
  clear H'
  try clear p2
  obtain ⟨x7_1, x8_1, rfl, HA, HK1, HO_7, HB⟩ := hrel
  cases gk with
  | zero => exact absurd HA.out (by simp [metrolabref26_Moved.l0])
  | succ k1 =>
   have H := HA.out
   clear HA
   simp only [metrolabref26_Moved.l0] at H
   by_cases c4 : x8_1 < (l0.length : Int)
   ·rw [if_pos c4] at H
    have c4b0 : decide (x8_1 < (l0.length : Int)) = true := decide_eq_true c4
    clear c4
    by_cases c5 : 0 ≤ x8_1
    ·rw [if_pos c5] at H
     have c5b0 : decide (0 ≤ x8_1) = true := decide_eq_true c5
     clear c5
     by_cases c6 : x7_1.length < 5864062014805
     ·rw [if_pos c6] at H
      have LMc6 := Aside0.mk c6
      clear c6
      obtain ⟨y375, hy375⟩ : ∃ y_ : List (S60), y_ = (x7_1 ++ [(⟨wrap64 ((wrap64 (a1 * ((rd_T60 l0 x8_1).f0))) + a2), (rd_T60 l0 x8_1).f1⟩ : S60)]) := ⟨_, rfl⟩
      replace H : (metrolabref26_Moved.l0 k1 l0 a1 a2 y375 (wrap64 (x8_1 + 1))) = some r := by first | (rw [hy375]; with_reducible exact H) | (have H2_ := (Option.bind_some _ _).symm.trans H; rw [hy375]; with_reducible exact H2_) | (have H2_ := (Option.bind_some _ _).symm.trans H; with_reducible exact H2_) | with_reducible exact H | (rw [hy375]; exact H) | exact H
      have Ny375 := Aside0.mk hy375
      clear hy375
      have H' := Aside0.mk H
      clear H
      try go_wp2
      have n0_ := Aside0.mk (Kd.R_drew HO_7.out)
      have n1_ := Aside0.mk (below_drew1 HB.out)
      clear HO_7
      clear HB
      have HO_7 := n0_
      have HB := n1_
      clear n0_ n1_
      have p373 : 0 ≤ (x8_1 : Int) := of_decide_eq_true z26_
      have q373 : x8_1 < (l0.length : Int) := of_decide_eq_true z26_
      obtain ⟨ad373, e373, hx373_0, hx373_1⟩ := at_T60 HR0.out x8_1 p373 q373
      have hw373_1 := hx373_1
      have hw373_0 := hx373_0
      cases e373
      replace hx373_0 := (HB.out.cell (World.block_lt_of_cell? w _ hx373_0)).trans hx373_0
      replace hx373_1 := (HB.out.cell (World.block_lt_of_cell? w _ hx373_1)).trans hx373_1
      replace p373 := eq_true p373
      replace q373 := eq_true q373
      have p374 : 0 ≤ (x8_1 : Int) := of_decide_eq_true z26_
      have q374 : x8_1 < (l0.length : Int) := of_decide_eq_true z26_
      obtain ⟨ad374, e374, hx374_0, hx374_1⟩ := at_T60 HR0.out x8_1 p374 q374
      have hw374_1 := hx374_1
      have hw374_0 := hx374_0
      obtain rfl : ad373 = ad374 := (by injection e374)
      replace hx374_0 := (HB.out.cell (World.block_lt_of_cell? w _ hx374_0)).trans hx374_0
      replace hx374_1 := (HB.out.cell (World.block_lt_of_cell? w _ hx374_1)).trans hx374_1
      replace p374 := eq_true p374
      replace q374 := eq_true q374
      refine start_ (n := 19) (S := fun w' => w'.cell? (ad373.add ((x8_1).toNat * 2)) = some (.int .i64 ((rd_T60 l0 x8_1).f0)) ∧ w'.cell? ⟨(ad373.add ((x8_1).toNat * 2)).block, (ad373.add ((x8_1).toNat * 2)).off + 1, none⟩ = some (.string ((rd_T60 l0 x8_1).f1)) ∧ w'.cell? (ad373.add ((x8_1).toNat * 2)) = some (.int .i64 ((rd_T60 l0 x8_1).f0)) ∧ w'.cell? ⟨(ad373.add ((x8_1).toNat * 2)).block, (ad373.add ((x8_1).toNat * 2)).off + 1, none⟩ = some (.string ((rd_T60 l0 x8_1).f1))) (ds := []) #[false, false, false, false, false, false, false, false, false, false, false, false, false, false, false, false, false, false, false] (by kernel_rfl) rfl rfl ⟨((HB.out.cell (World.block_lt_of_cell? w _ hw373_0)).trans hw373_0), ((HB.out.cell (World.block_lt_of_cell? w _ hw373_1)).trans hw373_1), ((HB.out.cell (World.block_lt_of_cell? w _ hw374_0)).trans hw374_0), ((HB.out.cell (World.block_lt_of_cell? w _ hw374_1)).trans hw374_1)⟩ (fun hHeld => ?_); refine with_tabW metrolabref26_Moved.tab5 metrolabref26_Moved.bits5 (fun HT_ HW_ => ?_)
      generalize wr.drew = w7 at HO_7 HB hx373_0 hx373_1 hx374_0 hx374_1 hHeld ⊢
      refine pu_ (i := 0) (N := some 15) #[true, false, false, false, false, false, false, false, false, false, false, false, false, false, false, false, false, false, false] HT_.out ?_
      refine pu_ (i := 1) (N := some 16) #[true, true, false, false, false, false, false, false, false, false, false, false, false, false, false, false, false, false, false] HT_.out ?_
      refine pu_ (i := 2) (N := some 17) #[true, true, true, false, false, false, false, false, false, false, false, false, false, false, false, false, false, false, false] HT_.out ?_
      refine pu_ (i := 3) (N := some 18) #[true, true, true, true, false, false, false, false, false, false, false, false, false, false, false, false, false, false, false] HT_.out ?_
      refine pu_ (i := 4) (N := some 19) #[true, true, true, true, true, false, false, false, false, false, false, false, false, false, false, false, false, false, false] HT_.out ?_
      refine pu_ (i := 5) (N := some 20) #[true, true, true, true, true, true, false, false, false, false, false, false, false, false, false, false, false, false, false] HT_.out ?_
      refine pu_ (i := 8) (N := some 23) #[true, true, true, true, true, true, false, false, true, false, false, false, false, false, false, false, false, false, false] HT_.out ?_
      refine pu_ (i := 10) (N := some 25) #[true, true, true, true, true, true, false, false, true, false, true, false, false, false, false, false, false, false, false] HT_.out ?_
      refine pu_ (i := 11) (N := some 26) #[true, true, true, true, true, true, false, false, true, false, true, true, false, false, false, false, false, false, false] HT_.out ?_
      refine pu_ (i := 12) (N := some 27) #[true, true, true, true, true, true, false, false, true, false, true, true, true, false, false, false, false, false, false] HT_.out ?_
      refine pu_ (i := 13) (N := some 28) #[true, true, true, true, true, true, false, false, true, false, true, true, true, true, false, false, false, false, false] HT_.out ?_
      refine take_ (i := 6) (N := some 21) (v := ?_) (a' := ?_) #[true, true, true, true, true, true, true, false, true, false, true, true, true, true, false, false, false, false, false] rfl rfl (take_ofW HT_.out HW_.out (by kernel_rfl)) (fun _ _ _ h => h) (Or.inl ⟨by rfl, ?_⟩) hHeld ?_ ?_
      rotate_left
      ·rintro w' ⟨s0, s1, s2, s3⟩
       go_simp
       with_reducible rfl
      rotate_left
      ·simp only [Act.put, List.setIfInBounds_toArray, List.set_cons_zero, List.set_cons_succ, i64_w, i32_w]
       rfl
      refine pu_ (i := 7) (N := some 22) #[true, true, true, true, true, true, true, true, true, false, true, true, true, true, false, false, false, false, false] HT_.out ?_
      refine pu_ (i := 9) (N := some 24) #[true, true, true, true, true, true, true, true, true, true, true, true, true, true, false, false, false, false, false] HT_.out ?_
      refine take_ (i := 14) (N := some 29) (v := ?_) (a' := ?_) #[true, true, true, true, true, true, true, true, true, true, true, true, true, true, true, false, false, false, false] rfl rfl (take_ofW HT_.out HW_.out (by kernel_rfl)) (fun _ _ _ h => h) (Or.inl ⟨by rfl, ?_⟩) hHeld ?_ ?_
      rotate_left
      ·rintro w' ⟨s0, s1, s2, s3⟩
       go_simp
       with_reducible rfl
      rotate_left
      ·simp only [Act.put, List.setIfInBounds_toArray, List.set_cons_zero, List.set_cons_succ, i64_w, i32_w]
       rfl
      refine pu_ (i := 15) (N := some 30) #[true, true, true, true, true, true, true, true, true, true, true, true, true, true, true, true, false, false, false] HT_.out ?_
      refine one_ (i := 16) (N := some 31) #[true, true, true, true, true, true, true, true, true, true, true, true, true, true, true, true, true, false, false] rfl rfl (one_of HT_.out (by kernel_rfl)) (by decide) (fun K hK => ?_)
      refine value_ (w1 := ?_) (v := ?_) (by rfl) rfl ?_ ?_
      rotate_left 2
      ·go_simp
       constructor
       ·rfl
       ·rfl
      refine hK.out _ _ ⟨(World.cell?_alloc_lt _ _ _ (World.block_lt_of_cell? _ _ (((HB.out.cell (World.block_lt_of_cell? w _ hw373_0)).trans hw373_0)))).trans (((HB.out.cell (World.block_lt_of_cell? w _ hw373_0)).trans hw373_0)), (World.cell?_alloc_lt _ _ _ (World.block_lt_of_cell? _ _ (((HB.out.cell (World.block_lt_of_cell? w _ hw373_1)).trans hw373_1)))).trans (((HB.out.cell (World.block_lt_of_cell? w _ hw373_1)).trans hw373_1)), (World.cell?_alloc_lt _ _ _ (World.block_lt_of_cell? _ _ (((HB.out.cell (World.block_lt_of_cell? w _ hw374_0)).trans hw374_0)))).trans (((HB.out.cell (World.block_lt_of_cell? w _ hw374_0)).trans hw374_0)), (World.cell?_alloc_lt _ _ _ (World.block_lt_of_cell? _ _ (((HB.out.cell (World.block_lt_of_cell? w _ hw374_1)).trans hw374_1)))).trans (((HB.out.cell (World.block_lt_of_cell? w _ hw374_1)).trans hw374_1))⟩ (fun hHeld => ?_)
      clear hK K
      refine norm_ (a' := ?_) ?_ ?_
      rotate_left
      ·show Act.put _ (some 31) _ = _
       simp only [Act.put, List.setIfInBounds_toArray, List.set_cons_zero, List.set_cons_succ, i64_w, i32_w]
       rfl
      refine one_ (i := 17) (N := some 32) #[true, true, true, true, true, true, true, true, true, true, true, true, true, true, true, true, true, true, false] rfl rfl (one_of HT_.out (by kernel_rfl)) (by decide) (fun K hK => ?_)
      refine Kd.R_append_step k60 (w0 := w) w.heap.size (by rfl) (.tmp 15) (.tmp 31) 22 60 (.agg #[(.int .i64 0), (.string ⟨#[]⟩)]) 24 rfl Tryz.underlying22 info60 rfl (by decide) (by omega) u7 x7_1 (⟨wrap64 ((wrap64 (a1 * ((rd_T60 l0 x8_1).f0))) + a2), (rd_T60 l0 x8_1).f1⟩ : S60) [.int .i64 (wrap64 ((wrap64 (a1 * ((rd_T60 l0 x8_1).f0))) + a2)), .string ((rd_T60 l0 x8_1).f1)] (fun _ => True) (fun _ => False) rfl rfl ?aP (fun _ hk => hk.elim) ?aF ?aO ?aB ?aS ?aL ?_
      (case aP => exact k60_mkM _ _ _ (⟨wrap64 ((wrap64 (a1 * ((rd_T60 l0 x8_1).f0))) + a2), (rd_T60 l0 x8_1).f1⟩ : S60))
      (case aB => exact z10_)
      (case aF => exact (fun _ _ => trivial))
      (case aO => exact z21_)
      (case aS => exact (below_size z10_))
      (case aL => have := LMc6.out; omega)
      intro v376 w8 ho hb hg hat
      rw [← Ny375.out] at ho
      have n0_ := Aside0.mk (hb)
      have n1_ := Aside0.mk (ho)
      clear HB
      clear HO_7
      have HB := n0_
      have HO377 := n1_
      clear n0_ n1_
      clear ho hb hg hat
      refine hK.out _ _ ⟨((HB.out.cell (World.block_lt_of_cell? w _ hw373_0)).trans hw373_0), ((HB.out.cell (World.block_lt_of_cell? w _ hw373_1)).trans hw373_1), ((HB.out.cell (World.block_lt_of_cell? w _ hw374_0)).trans hw374_0), ((HB.out.cell (World.block_lt_of_cell? w _ hw374_1)).trans hw374_1)⟩ (fun hHeld => ?_)
      clear hK K
      refine norm_ (a' := ?_) ?_ ?_
      rotate_left
      ·show Act.put _ (some 32) _ = _
       simp only [Act.put, List.setIfInBounds_toArray, List.set_cons_zero, List.set_cons_succ, i64_w, i32_w]
       rfl
      refine pu_ (i := 18) (N := some 7) #[true, true, true, true, true, true, true, true, true, true, true, true, true, true, true, true, true, true, true] HT_.out ?_
      refine done_ (done_of HT_.out (by kernel_rfl)) ?_
      try go_wp2
      go_roundg k1
      case measure => have := HK1.out; omega
      case rel => exact ⟨(y375), (wrap64 (x8_1 + 1)), z25_, H', ⟨by have := HK1.out; omega⟩, ⟨by (with_reducible repeat (first | apply Kd.R_alloc | apply Kd.R_drewN | apply Kd.R_drew)); first | exact HO377.out | (simp only [w64_m256]; exact HO377.out)⟩, ⟨by repeat (first | (with_reducible first | exact HB.out | apply below_alloc | apply pw_below_drewN | apply below_drew1) | exact HB.out)⟩⟩
     ·rw [if_neg c6] at H
      exact absurd H (by simp)
    ·rw [if_neg c5] at H
     exact absurd H (by simp)
   ·rw [if_neg c4] at H
    have c4b0 : decide (x8_1 < (l0.length : Int)) = false := decide_eq_false c4
    clear c4
    obtain ⟨t378, A9, H⟩ := bindA H
    obtain rfl := Option.some.inj H
    obtain ⟨Ao10, co10, eo10⟩ := Kd.R_slice HO_7.out
    subst eo10
    go_wp2_with (first | ((with_reducible refine gate_callee (f := 100) rfl ?_); refine goesL_ (some 34) rfl rfl Tryz.func100 (by kernel_rfl) rfl #[.slice Ao10 x7_1.length co10] rfl z9_ ?_; (with_reducible refine (metrolabref26_Gathered.calls k1 _ _ x7_1 t378 _ ?side1 ?side2 A9.out).mono ?_); (case side1 => repeat (first | exact (Kd.R_reads' HO_7.out).2.2 | (with_reducible refine Kd.C_alloc ?_ _) | (with_reducible refine Kd.C_drewN ?_ _) | (with_reducible refine Kd.C_drew ?_))); (case side2 => exact (Kd.R_reads' HO_7.out).2.1); rintro e w11 ⟨v379, rfl, ho0, hb⟩; refine ⟨_, rfl, ?_⟩; have n0_ := Aside0.mk (Kd.R_elder' z21_ (Kd.R_base ho0) hb); have n1_ := Aside0.mk (Kd.R_lower (Kd.R_new' ho0 (Kd.R_lt z21_)) (below_size z10_)); have n2_ := Aside0.mk (below_step z10_ hb); clear HO_7; clear HB; have HO_7 := n0_; have HO380 := n1_; have HB := n2_; clear n0_ n1_ n2_; (try clear hb); (try clear hb2); (try clear hk); (try clear hi); (try clear ho0)))
    go_ret
    exact ⟨_, z24_, by (with_reducible repeat (first | apply Kd.R_alloc | apply Kd.R_drewN | apply Kd.R_drew)); exact Kd.R_mono HO380.out (fun _ hk => trivial), z10_⟩
mutual
def metrolabref26_Scale.j0 : Nat → List (S60) → Int → Int → Bool → Option ((List (S60)) × Int)
 | 0, _, _, _, _ => none
 | k + 1, x0, x1, x2, x25 => if x25 = true then (some (([] : List (S60)), 2)) else ((metrolabref26_Moved.f k x0 x1 x2).bind fun t384 => (metrolabref26_Scale.l0 k t384 0))
def metrolabref26_Scale.l0 : Nat → List (S60) → Int → Option ((List (S60)) × Int)
 | 0, _, _ => none
 | k + 1, x9, x10 => if x10 < (x9.length : Int) then (if 0 ≤ x10 then ((metrolabref26_Value.f ((rd_T60 x9 x10).f0)).bind fun t388 => (if t388 = true then (metrolabref26_Scale.l0 k x9 (wrap64 (x10 + 1))) else (some (([] : List (S60)), 2)))) else (none)) else (some (x9, 0))
end
def metrolabref26_Scale.f (k : Nat) (l0 : List (S60)) (a1 : Int) (a2 : Int) : Option ((List (S60)) × Int) := (metrolabref26_Check.f k l0).bind fun t381 => (if t381 = 0 then (if a1 = 0 then (some (([] : List (S60)), 10)) else ((metrolabref26_Value.f a1).bind fun t382 => (if t382 = true then ((metrolabref26_Value.f a2).bind fun t383 => (metrolabref26_Scale.j0 k l0 a1 a2 (!t383))) else (metrolabref26_Scale.j0 k l0 a1 a2 true)))) else (some (([] : List (S60)), t381)))
set_option maxHeartbeats 8000000 in
set_option maxRecDepth 100000 in
theorem metrolabref26_Scale.calls (k : Nat) (A0 : Option Addr) (c0 : Nat) (l0 : List (S60)) (a1 : Int) (a2 : Int) (r1 : List (S60)) (r2 : Int) (w : World) (hr0 : Kd.C k60 w A0 l0.length l0) (hc0 : l0.length ≤ c0) (h : metrolabref26_Scale.f k l0 a1 a2 = some (r1, r2)) :
  Calls Tryz.prog 28 #[.slice A0 l0.length c0, .int .i64 a1, .int .i64 a2] w fun e w' => ∃ v0_ : Value, e = .returned (.tuple #[v0_, .int .i64 r2]) ∧ Kd.R k60 60 w' w.heap.size (fun _ => True) v0_ r1 ∧ Below w.heap.size w w' := by
 have HR0 := Aside0.mk hr0
 have HC0 := Aside0.mk hc0
 clear hr0 hc0
 have HB := Aside0.mk (Below.refl w.heap.size w)
 have H : ((metrolabref26_Check.f k l0).bind fun t381 => (if t381 = 0 then (if a1 = 0 then (some (([] : List (S60)), 10)) else ((metrolabref26_Value.f a1).bind fun t382 => (if t382 = true then ((metrolabref26_Value.f a2).bind fun t383 => (metrolabref26_Scale.j0 k l0 a1 a2 (!t383))) else (metrolabref26_Scale.j0 k l0 a1 a2 true)))) else (some (([] : List (S60)), t381)))) = some (r1, r2) := h
 clear h
 obtain ⟨t381, A4, H⟩ := bindA H
 by_cases c5 : t381 = 0
 ·rw [if_pos c5] at H
  have c5b0 := beq_iff_eq.mpr c5
  have c5b1 := bne_eq_false_iff_eq.mpr c5
  clear c5
  by_cases c6 : a1 = 0
  ·rw [if_pos c6] at H
   have c6b0 := beq_iff_eq.mpr c6
   have c6b1 := bne_eq_false_iff_eq.mpr c6
   clear c6
   simp only [Option.some.injEq, Prod.mk.injEq] at H
   obtain ⟨rfl, rfl⟩ := H
   go_enter Tryz.func28, Tryz.ntmps28
   go_wp2_with (first | ((with_reducible refine gate_callee (f := 21) rfl ?_); refine goesL_ (some 12) rfl rfl Tryz.func21 (by kernel_rfl) rfl #[.slice A0 l0.length c0] rfl z9_ ?_; (with_reducible refine (metrolabref26_Check.calls k _ _ l0 t381 _ ?side1 ?side2 A4.out).mono ?_); (case side1 => repeat (first | exact HR0.out | (with_reducible refine Kd.C_alloc ?_ _) | (with_reducible refine Kd.C_drewN ?_ _) | (with_reducible refine Kd.C_drew ?_))); (case side2 => exact HC0.out); rintro e w7 ⟨rfl, hb⟩; refine ⟨_, rfl, ?_⟩; replace HB := Aside0.mk (below_step z10_ hb); clear hb))
   go_ret2
   exact ⟨_, z24_, by first | exact Kd.R_nil _ _ _ _ _ | exact Kd.N_nil _ _ _ _ _ | exact Kd.V_nil _ _ _ _ _ | exact Kd.Q_nil _ _ _ _ _ | exact Kd.S_nil _ _ _ _ _, z10_⟩
  ·rw [if_neg c6] at H
   have c6b0 := beq_eq_false_iff_ne.mpr c6
   have c6b1 := bne_iff_ne.mpr c6
   have HC8 := Aside0.mk H
   clear H
   go_enter Tryz.func28, Tryz.ntmps28
   go_upto_region 6 with (first | ((with_reducible refine gate_callee (f := 21) rfl ?_); refine goesL_ (some 12) rfl rfl Tryz.func21 (by kernel_rfl) rfl #[.slice A0 l0.length c0] rfl z9_ ?_; (with_reducible refine (metrolabref26_Check.calls k _ _ l0 t381 _ ?side1 ?side2 A4.out).mono ?_); (case side1 => repeat (first | exact HR0.out | (with_reducible refine Kd.C_alloc ?_ _) | (with_reducible refine Kd.C_drewN ?_ _) | (with_reducible refine Kd.C_drew ?_))); (case side2 => exact HC0.out); rintro e w9 ⟨rfl, hb⟩; refine ⟨_, rfl, ?_⟩; replace HB := Aside0.mk (below_step z10_ hb); clear hb))
   (try simp only [Act.put, List.setIfInBounds_toArray, List.set_cons_zero, List.set_cons_succ])
   go_cut [25] (fun v25 wc => ∃ (kq : Nat) (x25_7 : Bool), v25 = .bool x25_7 ∧ Aside0 (metrolabref26_Scale.j0 kq l0 a1 a2 x25_7 = some (r1, r2)) ∧ Aside0 (kq ≤ k) ∧ Aside0 (Below w.heap.size w wc))
   case first =>
    have H := HC8.out
    clear HC8
    obtain ⟨t382, A10, H⟩ := bindA H
    by_cases c11 : t382 = true
    ·subst c11
     rw [if_pos rfl] at H
     obtain ⟨t383, A12, H⟩ := bindA H
     have H' := Aside0.mk H
     clear H
     go_wp2_with (first | (refine gz (f := 53) rfl (some 19) rfl Tryz.func53 (metrolabref26_Value.calls a1 true _ A10.out) ?_; rintro w' ⟨nd, rfl⟩) | (go_at_call 53; (with_reducible refine (metrolabref26_Value.calls a2 t383 _ A12.out).mono ?_); rintro e w' ⟨rfl, ⟨nd, rfl⟩⟩))
     go_meet
     case rel => exact ⟨_, (!t383), z25_, H', ⟨by first | omega | exact Nat.le_refl _⟩, ⟨by repeat (first | (with_reducible first | exact HB.out | apply below_alloc | apply pw_below_drewN | apply below_drew1) | exact HB.out)⟩⟩
    ·replace c11 := Bool.eq_false_iff.mpr c11
     subst c11
     rw [if_neg (show ¬ (false = true) by decide)] at H
     have H' := Aside0.mk H
     clear H
     go_wp2_with (first | (refine gz (f := 53) rfl (some 19) rfl Tryz.func53 (metrolabref26_Value.calls a1 false _ A10.out) ?_; rintro w' ⟨nd, rfl⟩))
     go_meet
     case rel => exact ⟨_, (true), z25_, H', ⟨by first | omega | exact Nat.le_refl _⟩, ⟨by repeat (first | (with_reducible first | exact HB.out | apply below_alloc | apply pw_below_drewN | apply below_drew1) | exact HB.out)⟩⟩
   case rest =>
    clear HC8
    try clear c1
    try clear c2
    try clear p2
    try clear c5
    try clear c5b0
    try clear c5b1
    try clear c6
    try clear c6b0
    try clear c6b1
    try clear c11
    obtain ⟨kq, x25_7, rfl, HA, HJ7, HB⟩ := hcut
    cases kq with
    | zero => exact absurd HA.out (by simp [metrolabref26_Scale.j0])
    | succ kj7 =>
     have H := HA.out
     clear HA
     simp only [metrolabref26_Scale.j0] at H
     by_cases c13 : x25_7 = true
     ·subst c13
      rw [if_pos rfl] at H
      simp only [Option.some.injEq, Prod.mk.injEq] at H
      obtain ⟨rfl, rfl⟩ := H
      go_wp2
      go_ret2
      exact ⟨_, z24_, by first | exact Kd.R_nil _ _ _ _ _ | exact Kd.N_nil _ _ _ _ _ | exact Kd.V_nil _ _ _ _ _ | exact Kd.Q_nil _ _ _ _ _ | exact Kd.S_nil _ _ _ _ _, z10_⟩
     ·replace c13 := Bool.eq_false_iff.mpr c13
      subst c13
      rw [if_neg (show ¬ (false = true) by decide)] at H
      obtain ⟨t384, A14, H⟩ := bindA H
      have H' := Aside0.mk H
      clear H
      go_wp2_with (first | ((with_reducible refine gate_callee (f := 59) rfl ?_); refine goesL_ (some 29) rfl rfl Tryz.func59 (by kernel_rfl) rfl #[.slice A0 l0.length c0, .int .i64 a1, .int .i64 a2] rfl z9_ ?_; (with_reducible refine (metrolabref26_Moved.calls kj7 _ _ l0 a1 a2 t384 _ ?side1 ?side2 A14.out).mono ?_); (case side1 => repeat (first | exact (Kd.C_below HR0.out HB.out) | (with_reducible refine Kd.C_alloc ?_ _) | (with_reducible refine Kd.C_drewN ?_ _) | (with_reducible refine Kd.C_drew ?_))); (case side2 => exact HC0.out); rintro e w15 ⟨v385, rfl, ho0, hb⟩; refine ⟨_, rfl, ?_⟩; have n0_ := Aside0.mk (Kd.R_lower ho0 (below_size z10_)); have n1_ := Aside0.mk (below_step z10_ hb); clear HB; have HO386 := n0_; have HB := n1_; clear n0_ n1_; (try clear hb); (try clear hb2); (try clear hk); (try clear hi); (try clear ho0)))
      go_loopg [10] kj7 (fun kq v10 w' => ∃ (x10_2 : Int), v10 = .int .i64 x10_2 ∧ Aside0 (metrolabref26_Scale.l0 kq t384 x10_2 = some (r1, r2)) ∧ Aside0 (kq ≤ kj7) ∧ Aside0 (Kd.R k60 60 w' w.heap.size (fun _ => True) v385 t384) ∧ Aside0 (Below w.heap.size w w'))
      case atStart => exact ⟨(0), z25_, H', ⟨Nat.le_refl _⟩, ⟨by (with_reducible repeat (first | apply Kd.R_alloc | apply Kd.R_drewN | apply Kd.R_drew)); first | exact HO386.out | (simp only [w64_m256]; exact HO386.out)⟩, ⟨by repeat (first | (with_reducible first | exact HB.out | apply below_alloc | apply pw_below_drewN | apply below_drew1) | exact HB.out)⟩⟩
      case round =>
       clear H'
       try clear c1
       try clear c2
       try clear p2
       try clear c5
       try clear c5b0
       try clear c5b1
       try clear c6
       try clear c6b0
       try clear c6b1
       try clear c11
       try clear c13
       try clear p2
       obtain ⟨x10_2, rfl, HA, HK2, HO_9, HB⟩ := hrel
       cases gk with
       | zero => exact absurd HA.out (by simp [metrolabref26_Scale.l0])
       | succ k2 =>
        have H := HA.out
        clear HA
        simp only [metrolabref26_Scale.l0] at H
        by_cases c16 : x10_2 < (t384.length : Int)
        ·rw [if_pos c16] at H
         have c16b0 : decide (x10_2 < (t384.length : Int)) = true := decide_eq_true c16
         clear c16
         by_cases c17 : 0 ≤ x10_2
         ·rw [if_pos c17] at H
          have c17b0 : decide (0 ≤ x10_2) = true := decide_eq_true c17
          clear c17
          obtain ⟨t388, A18, H⟩ := bindA H
          by_cases c19 : t388 = true
          ·subst c19
           rw [if_pos rfl] at H
           have H' := Aside0.mk H
           clear H
           obtain ⟨Ao20, co20, eo20⟩ := Kd.R_slice HO_9.out
           subst eo20
           have p387 : 0 ≤ (x10_2 : Int) := of_decide_eq_true z26_
           have q387 : x10_2 < (t384.length : Int) := of_decide_eq_true z26_
           obtain ⟨ad387, e387, hx387_0, hx387_1⟩ := at_T60 (Kd.R_reads' HO_9.out).2.2 x10_2 p387 q387
           cases e387
           replace p387 := eq_true p387
           replace q387 := eq_true q387
           go_wp2_with (first | (refine gz (f := 53) rfl (some 41) rfl Tryz.func53 (metrolabref26_Value.calls ((rd_T60 t384 x10_2).f0) true _ A18.out) ?_; rintro w' ⟨nd, rfl⟩))
           go_roundg k2
           case measure => have := HJ7.out; have := HK2.out; omega
           case rel => exact ⟨(wrap64 (x10_2 + 1)), z25_, H', ⟨by have := HJ7.out; have := HK2.out; omega⟩, ⟨by (with_reducible repeat (first | apply Kd.R_alloc | apply Kd.R_drewN | apply Kd.R_drew)); first | exact HO_9.out | (simp only [w64_m256]; exact HO_9.out)⟩, ⟨by repeat (first | (with_reducible first | exact HB.out | apply below_alloc | apply pw_below_drewN | apply below_drew1) | exact HB.out)⟩⟩
          ·replace c19 := Bool.eq_false_iff.mpr c19
           subst c19
           rw [if_neg (show ¬ (false = true) by decide)] at H
           simp only [Option.some.injEq, Prod.mk.injEq] at H
           obtain ⟨rfl, rfl⟩ := H
           obtain ⟨Ao21, co21, eo21⟩ := Kd.R_slice HO_9.out
           subst eo21
           have p387 : 0 ≤ (x10_2 : Int) := of_decide_eq_true z26_
           have q387 : x10_2 < (t384.length : Int) := of_decide_eq_true z26_
           obtain ⟨ad387, e387, hx387_0, hx387_1⟩ := at_T60 (Kd.R_reads' HO_9.out).2.2 x10_2 p387 q387
           cases e387
           replace p387 := eq_true p387
           replace q387 := eq_true q387
           go_wp2_with (first | (refine gz (f := 53) rfl (some 41) rfl Tryz.func53 (metrolabref26_Value.calls ((rd_T60 t384 x10_2).f0) false _ A18.out) ?_; rintro w' ⟨nd, rfl⟩))
           go_ret2
           exact ⟨_, z24_, by first | exact Kd.R_nil _ _ _ _ _ | exact Kd.N_nil _ _ _ _ _ | exact Kd.V_nil _ _ _ _ _ | exact Kd.Q_nil _ _ _ _ _ | exact Kd.S_nil _ _ _ _ _, z10_⟩
         ·rw [if_neg c17] at H
          exact absurd H (by simp)
        ·rw [if_neg c16] at H
         have c16b0 : decide (x10_2 < (t384.length : Int)) = false := decide_eq_false c16
         clear c16
         simp only [Option.some.injEq, Prod.mk.injEq] at H
         obtain ⟨rfl, rfl⟩ := H
         obtain ⟨Ao22, co22, eo22⟩ := Kd.R_slice HO_9.out
         subst eo22
         go_wp2
         go_ret2
         exact ⟨_, z24_, by (with_reducible repeat (first | apply Kd.R_alloc | apply Kd.R_drewN | apply Kd.R_drew)); exact HO_9.out, z10_⟩
 ·rw [if_neg c5] at H
  have c5b0 := beq_eq_false_iff_ne.mpr c5
  have c5b1 := bne_iff_ne.mpr c5
  simp only [Option.some.injEq, Prod.mk.injEq] at H
  obtain ⟨rfl, rfl⟩ := H
  go_enter Tryz.func28, Tryz.ntmps28
  go_wp2_with (first | ((with_reducible refine gate_callee (f := 21) rfl ?_); refine goesL_ (some 12) rfl rfl Tryz.func21 (by kernel_rfl) rfl #[.slice A0 l0.length c0] rfl z9_ ?_; (with_reducible refine (metrolabref26_Check.calls k _ _ l0 t381 _ ?side1 ?side2 A4.out).mono ?_); (case side1 => repeat (first | exact HR0.out | (with_reducible refine Kd.C_alloc ?_ _) | (with_reducible refine Kd.C_drewN ?_ _) | (with_reducible refine Kd.C_drew ?_))); (case side2 => exact HC0.out); rintro e w23 ⟨rfl, hb⟩; refine ⟨_, rfl, ?_⟩; replace HB := Aside0.mk (below_step z10_ hb); clear hb))
  go_ret2
  exact ⟨_, z24_, by first | exact Kd.R_nil _ _ _ _ _ | exact Kd.N_nil _ _ _ _ _ | exact Kd.V_nil _ _ _ _ _ | exact Kd.Q_nil _ _ _ _ _ | exact Kd.S_nil _ _ _ _ _, z10_⟩
mutual
def dist_Reduce.l0 : Nat → List (S60) → ByteArray → List (S60) → Int → Int → Option ((List (S60)) × Int)
 | 0, _, _, _, _, _ => none
 | k + 1, x0, x5, x19, x20, x21 => if x21 < x20 then (if 0 ≤ x21 then (if x21 < (x19.length : Int) then ((whole_Gcd.f x5 ((rd_T60 x19 x21).f1)).bind fun bt392 => (if bt392.2 = 0 then (dist_Reduce.l0 k x0 bt392.1 x19 x20 (wrap64 (x21 + 1))) else (some (([] : List (S60)), bt392.2)))) else (none)) else (none)) else (dist_Reduce.l1 k x5 ([] : List (S60)) x0 (x0.length : Int) 0)
def dist_Reduce.l1 : Nat → ByteArray → List (S60) → List (S60) → Int → Int → Option ((List (S60)) × Int)
 | 0, _, _, _, _, _ => none
 | k + 1, x5, x9, x36, x37, x38 => if x38 < x37 then (if 0 ≤ x38 then (if x38 < (x36.length : Int) then ((whole_Quo.f ((rd_T60 x36 x38).f1) x5).bind fun bt396 => (if bt396.2 = 0 then (if x9.length < 5864062014805 then (dist_Reduce.l1 k x5 (x9 ++ [(⟨(rd_T60 x36 x38).f0, bt396.1⟩ : S60)]) x36 x37 (wrap64 (x38 + 1))) else (none)) else (some (([] : List (S60)), bt396.2)))) else (none)) else (none)) else (some (x9, 0))
end
def dist_Reduce.f (k : Nat) (l0 : List (S60)) : Option ((List (S60)) × Int) := (dist_Check.f l0).bind fun t389 => (if t389 = 0 then (dist_Reduce.l0 k l0 (⟨#[48]⟩ : ByteArray) l0 (l0.length : Int) 0) else (some (([] : List (S60)), t389)))
set_option maxHeartbeats 8000000 in
set_option maxRecDepth 100000 in
theorem dist_Reduce.calls (k : Nat) (A0 : Option Addr) (c0 : Nat) (l0 : List (S60)) (r1 : List (S60)) (r2 : Int) (w : World) (hr0 : Kd.C k60 w A0 l0.length l0) (hc0 : l0.length ≤ c0) (h : dist_Reduce.f k l0 = some (r1, r2)) (HT : Aside0 (Tabs w)) :
  Calls Tryz.prog 29 #[.slice A0 l0.length c0] w fun e w' => ∃ v0_ : Value, e = .returned (.tuple #[v0_, .int .i64 r2]) ∧ Kd.R k60 60 w' w.heap.size (fun _ => True) v0_ r1 ∧ Below w.heap.size w w' := by
 have hu60 := Tryz.underlying60
 have HR0 := Aside0.mk hr0
 have HC0 := Aside0.mk hc0
 clear hr0 hc0
 have HB := Aside0.mk (Below.refl w.heap.size w)
 have H : ((dist_Check.f l0).bind fun t389 => (if t389 = 0 then (dist_Reduce.l0 k l0 (⟨#[48]⟩ : ByteArray) l0 (l0.length : Int) 0) else (some (([] : List (S60)), t389)))) = some (r1, r2) := h
 clear h
 obtain ⟨t389, A2, H⟩ := bindA H
 by_cases c3 : t389 = 0
 ·rw [if_pos c3] at H
  have c3b0 := beq_iff_eq.mpr c3
  have c3b1 := bne_eq_false_iff_eq.mpr c3
  clear c3
  have H' := Aside0.mk H
  clear H
  go_enter Tryz.func29, Tryz.ntmps29
  go_wp2_with (first | ((with_reducible refine gate_callee (f := 20) rfl ?_); refine goesL_ (some 15) rfl rfl Tryz.func20 (by kernel_rfl) rfl #[.slice A0 l0.length c0] rfl z9_ ?_; (with_reducible refine (dist_Check.calls _ _ l0 t389 _ ?side1 ?side2 A2.out).mono ?_); (case side1 => repeat (first | exact HR0.out | (with_reducible refine Kd.C_alloc ?_ _) | (with_reducible refine Kd.C_drewN ?_ _) | (with_reducible refine Kd.C_drew ?_))); (case side2 => exact HC0.out); rintro e w4 ⟨rfl, hb⟩; refine ⟨_, rfl, ?_⟩; replace HB := Aside0.mk (below_step z10_ hb); clear hb))
  go_loopg [5, 21] k (fun kq v5 v21 w' => ∃ (x5_1 : ByteArray) (x21_1 : Int), v5 = .string x5_1 ∧ v21 = .int .i64 x21_1 ∧ Aside0 (dist_Reduce.l0 kq l0 x5_1 l0 (l0.length : Int) x21_1 = some (r1, r2)) ∧ Aside0 (kq ≤ k) ∧ Aside0 (Below w.heap.size w w'))
  case atStart => exact ⟨((⟨#[48]⟩ : ByteArray)), (0), z25_, z25_, H', ⟨Nat.le_refl _⟩, ⟨by repeat (first | (with_reducible first | exact HB.out | apply below_alloc | apply pw_below_drewN | apply below_drew1) | exact HB.out)⟩⟩
  case round =>
   clear H'
   try clear c2
   try clear p2
   try clear c3
   try clear c3b0
   try clear c3b1
   obtain ⟨x5_1, x21_1, rfl, rfl, HA, HK1, HB⟩ := hrel
   cases gk with
   | zero => exact absurd HA.out (by simp [dist_Reduce.l0])
   | succ k1 =>
    have H := HA.out
    clear HA
    simp only [dist_Reduce.l0] at H
    by_cases c5 : x21_1 < (l0.length : Int)
    ·rw [if_pos c5] at H
     have c5b0 : decide (x21_1 < (l0.length : Int)) = true := decide_eq_true c5
     clear c5
     by_cases c6 : 0 ≤ x21_1
     ·rw [if_pos c6] at H
      have c6b0 : decide (0 ≤ x21_1) = true := decide_eq_true c6
      clear c6
      by_cases c7 : x21_1 < (l0.length : Int)
      ·rw [if_pos c7] at H
       have c7b0 : decide (x21_1 < (l0.length : Int)) = true := decide_eq_true c7
       clear c7
       obtain ⟨⟨t392, t393⟩, A8, H⟩ := bindA H
       dsimp only at H
       by_cases c9 : t393 = 0
       ·rw [if_pos c9] at H
        have c9b0 := beq_iff_eq.mpr c9
        have c9b1 := bne_eq_false_iff_eq.mpr c9
        clear c9
        have H' := Aside0.mk H
        clear H
        have p390 : 0 ≤ (x21_1 : Int) := of_decide_eq_true z26_
        have q390 : x21_1 < (l0.length : Int) := of_decide_eq_true z26_
        obtain ⟨ad390, e390, hx390_0, hx390_1⟩ := at_T60 HR0.out x21_1 p390 q390
        cases e390
        replace hx390_0 := (HB.out.cell (World.block_lt_of_cell? w _ hx390_0)).trans hx390_0
        replace hx390_1 := (HB.out.cell (World.block_lt_of_cell? w _ hx390_1)).trans hx390_1
        replace p390 := eq_true p390
        replace q390 := eq_true q390
        go_wp2_with (first | ((with_reducible refine gate_dst (N := 7) rfl ?_); refine box_event ?hg (N := 7) ?hd (cs := #[.int .i64 0, .string (⟨#[]⟩ : ByteArray)]) (t := 60) ?hr ?_; (case hd => rfl); (case hg => rfl); (case hr => first | (go_simp; done) | (go_simp; rfl)); intro gb391 hg w10 hbox hb; have n0_ := Aside0.mk (below_step z10_ hb); have n1_ := Aside0.mk (hbox); have n2_ := Aside0.mk ((by rw [hg]; exact (below_size z10_) : w.heap.size ≤ gb391)); have n3_ := Aside0.mk ((by rw [hg]; exact (below_size z10_) : w.heap.size ≤ gb391)); clear HB; have HB := n0_; have BK391 := n1_; have GW391 := n2_; have GE391 := n3_; clear n0_ n1_ n2_ n3_; clear hb hbox hg; have hcz11_0 : w10.cell? ⟨gb391, 0, none⟩ = some (.int .i64 0) := (blk_cell BK391.out 0).trans rfl; have hcz11_1 : w10.cell? ⟨gb391, 1, none⟩ = some (.string (⟨#[]⟩ : ByteArray)) := (blk_cell BK391.out 1).trans rfl; have hfz11_0 := blk_frozen BK391.out 0; have hfz11_1 := blk_frozen BK391.out 1) | (refine gz (f := 60) rfl (some 29) rfl Tryz.func60 (whole_Gcd.calls x5_1 ((rd_T60 l0 x21_1).f1) t392 t393 _ A8.out (Aside0.mk (Tabs.below HT.out z4_))) ?_; rintro w12 hb; have n0_ := Aside0.mk (blk_below (g := gb391) (o := .cells #[.int .i64 ((rd_T60 l0 x21_1).f0), .string ((rd_T60 l0 x21_1).f1)] 60 (0, 0)) z1_ hb); have n1_ := Aside0.mk (below_step (by repeat (first | (with_reducible first | exact HB.out | apply below_alloc | apply pw_below_drewN | apply below_drew1 | refine Go.Proofs.YtkdpcgmnkifbbaaGreatDoorW.PrintWords.below_set ?_ GE391.out) | exact HB.out)) hb); clear BK391; clear HB; have BK391 := n0_; have HB := n1_; clear n0_ n1_; (try clear hb); (try clear hb2); (try clear hk); (try clear hi)))
        go_roundg k1
        case measure => have := HK1.out; omega
        case rel => exact ⟨(t392), (wrap64 (x21_1 + 1)), z25_, z25_, H', ⟨by have := HK1.out; omega⟩, ⟨by repeat (first | (with_reducible first | exact HB.out | apply below_alloc | apply pw_below_drewN | apply below_drew1 | refine Go.Proofs.YtkdpcgmnkifbbaaGreatDoorW.PrintWords.below_set ?_ GE391.out) | exact HB.out)⟩⟩
       ·rw [if_neg c9] at H
        have c9b0 := beq_eq_false_iff_ne.mpr c9
        have c9b1 := bne_iff_ne.mpr c9
        simp only [Option.some.injEq, Prod.mk.injEq] at H
        obtain ⟨rfl, rfl⟩ := H
        have p390 : 0 ≤ (x21_1 : Int) := of_decide_eq_true z26_
        have q390 : x21_1 < (l0.length : Int) := of_decide_eq_true z26_
        obtain ⟨ad390, e390, hx390_0, hx390_1⟩ := at_T60 HR0.out x21_1 p390 q390
        cases e390
        replace hx390_0 := (HB.out.cell (World.block_lt_of_cell? w _ hx390_0)).trans hx390_0
        replace hx390_1 := (HB.out.cell (World.block_lt_of_cell? w _ hx390_1)).trans hx390_1
        replace p390 := eq_true p390
        replace q390 := eq_true q390
        go_wp2_with (first | ((with_reducible refine gate_dst (N := 7) rfl ?_); refine box_event ?hg (N := 7) ?hd (cs := #[.int .i64 0, .string (⟨#[]⟩ : ByteArray)]) (t := 60) ?hr ?_; (case hd => rfl); (case hg => rfl); (case hr => first | (go_simp; done) | (go_simp; rfl)); intro gb391 hg w13 hbox hb; have n0_ := Aside0.mk (below_step z10_ hb); have n1_ := Aside0.mk (hbox); have n2_ := Aside0.mk ((by rw [hg]; exact (below_size z10_) : w.heap.size ≤ gb391)); have n3_ := Aside0.mk ((by rw [hg]; exact (below_size z10_) : w.heap.size ≤ gb391)); clear HB; have HB := n0_; have BK391 := n1_; have GW391 := n2_; have GE391 := n3_; clear n0_ n1_ n2_ n3_; clear hb hbox hg; have hcz14_0 : w13.cell? ⟨gb391, 0, none⟩ = some (.int .i64 0) := (blk_cell BK391.out 0).trans rfl; have hcz14_1 : w13.cell? ⟨gb391, 1, none⟩ = some (.string (⟨#[]⟩ : ByteArray)) := (blk_cell BK391.out 1).trans rfl; have hfz14_0 := blk_frozen BK391.out 0; have hfz14_1 := blk_frozen BK391.out 1) | (refine gz (f := 60) rfl (some 29) rfl Tryz.func60 (whole_Gcd.calls x5_1 ((rd_T60 l0 x21_1).f1) t392 t393 _ A8.out (Aside0.mk (Tabs.below HT.out z4_))) ?_; rintro w15 hb; have n0_ := Aside0.mk (blk_below (g := gb391) (o := .cells #[.int .i64 ((rd_T60 l0 x21_1).f0), .string ((rd_T60 l0 x21_1).f1)] 60 (0, 0)) z1_ hb); have n1_ := Aside0.mk (below_step (by repeat (first | (with_reducible first | exact HB.out | apply below_alloc | apply pw_below_drewN | apply below_drew1 | refine Go.Proofs.YtkdpcgmnkifbbaaGreatDoorW.PrintWords.below_set ?_ GE391.out) | exact HB.out)) hb); clear BK391; clear HB; have BK391 := n0_; have HB := n1_; clear n0_ n1_; (try clear hb); (try clear hb2); (try clear hk); (try clear hi)))
        go_ret2
        exact ⟨_, z24_, by first | exact Kd.R_nil _ _ _ _ _ | exact Kd.N_nil _ _ _ _ _ | exact Kd.V_nil _ _ _ _ _ | exact Kd.Q_nil _ _ _ _ _ | exact Kd.S_nil _ _ _ _ _, by repeat (first | (with_reducible first | exact HB.out | apply below_alloc | apply pw_below_drewN | apply below_drew1 | refine Go.Proofs.YtkdpcgmnkifbbaaGreatDoorW.PrintWords.below_set ?_ GE391.out) | exact HB.out)⟩
      ·rw [if_neg c7] at H
       exact absurd H (by simp)
     ·rw [if_neg c6] at H
      exact absurd H (by simp)
    ·rw [if_neg c5] at H
     have c5b0 : decide (x21_1 < (l0.length : Int)) = false := decide_eq_false c5
     clear c5
     have H' := Aside0.mk H
     clear H
     go_wp2
     go_loopg [9, 38] k1 (fun kq v9 v38 w' => ∃ (x9_2 : List (S60)) (x38_2 : Int), v38 = .int .i64 x38_2 ∧ Aside0 (dist_Reduce.l1 kq x5_1 x9_2 l0 (l0.length : Int) x38_2 = some (r1, r2)) ∧ Aside0 (kq ≤ k1) ∧ Aside0 (Kd.R k60 60 w' w.heap.size (fun _ => True) v9 x9_2) ∧ Aside0 (Below w.heap.size w w'))
     case atStart => exact ⟨(([] : List (S60))), (0), z25_, H', ⟨Nat.le_refl _⟩, ⟨by first | exact Kd.R_nil _ _ _ _ _ | exact Kd.N_nil _ _ _ _ _ | exact Kd.V_nil _ _ _ _ _ | exact Kd.Q_nil _ _ _ _ _ | exact Kd.S_nil _ _ _ _ _⟩, ⟨by repeat (first | (with_reducible first | exact HB.out | apply below_alloc | apply pw_below_drewN | apply below_drew1) | exact HB.out)⟩⟩
     case round =>
      clear H'
      try clear c2
      try clear p2
      try clear c3
      try clear c3b0
      try clear c3b1
      try clear p3
      try clear q3
      try clear hx3
      try clear c5
      try clear c5b0
      try clear c6
      try clear c6b0
      try clear p6
      try clear c7
      try clear c7b0
      try clear c9
      try clear c9b0
      try clear c9b1
      try clear hcz11_0
      try clear hcz11_1
      try clear hcz14_0
      try clear hcz14_1
      try clear hfz11_0
      try clear hfz11_1
      try clear hfz14_0
      try clear hfz14_1
      try clear hx390_0
      try clear hx390_1
      try clear p2
      try clear p390
      try clear q390
      obtain ⟨x9_2, x38_2, rfl, HA, HK2, HO_9, HB⟩ := hrel
      cases gk with
      | zero => exact absurd HA.out (by simp [dist_Reduce.l1])
      | succ k2 =>
       have H := HA.out
       clear HA
       simp only [dist_Reduce.l1] at H
       by_cases c16 : x38_2 < (l0.length : Int)
       ·rw [if_pos c16] at H
        have c16b0 : decide (x38_2 < (l0.length : Int)) = true := decide_eq_true c16
        clear c16
        by_cases c17 : 0 ≤ x38_2
        ·rw [if_pos c17] at H
         have c17b0 : decide (0 ≤ x38_2) = true := decide_eq_true c17
         clear c17
         by_cases c18 : x38_2 < (l0.length : Int)
         ·rw [if_pos c18] at H
          have c18b0 : decide (x38_2 < (l0.length : Int)) = true := decide_eq_true c18
          clear c18
          obtain ⟨⟨t396, t397⟩, A19, H⟩ := bindA H
          dsimp only at H
          by_cases c20 : t397 = 0
          ·rw [if_pos c20] at H
           have c20b0 := beq_iff_eq.mpr c20
           have c20b1 := bne_eq_false_iff_eq.mpr c20
           clear c20
           by_cases c21 : x9_2.length < 5864062014805
           ·rw [if_pos c21] at H
            have LMc21 := Aside0.mk c21
            clear c21
            obtain ⟨y398, hy398⟩ : ∃ y_ : List (S60), y_ = (x9_2 ++ [(⟨(rd_T60 l0 x38_2).f0, t396⟩ : S60)]) := ⟨_, rfl⟩
            replace H : (dist_Reduce.l1 k2 x5_1 y398 l0 (l0.length : Int) (wrap64 (x38_2 + 1))) = some (r1, r2) := by first | (rw [hy398]; with_reducible exact H) | (have H2_ := (Option.bind_some _ _).symm.trans H; rw [hy398]; with_reducible exact H2_) | (have H2_ := (Option.bind_some _ _).symm.trans H; with_reducible exact H2_) | with_reducible exact H | (rw [hy398]; exact H) | exact H
            have Ny398 := Aside0.mk hy398
            clear hy398
            have H' := Aside0.mk H
            clear H
            have p394 : 0 ≤ (x38_2 : Int) := of_decide_eq_true z26_
            have q394 : x38_2 < (l0.length : Int) := of_decide_eq_true z26_
            obtain ⟨ad394, e394, hx394_0, hx394_1⟩ := at_T60 HR0.out x38_2 p394 q394
            cases e394
            replace hx394_0 := (HB.out.cell (World.block_lt_of_cell? w _ hx394_0)).trans hx394_0
            replace hx394_1 := (HB.out.cell (World.block_lt_of_cell? w _ hx394_1)).trans hx394_1
            replace p394 := eq_true p394
            replace q394 := eq_true q394
            go_wp2_with (first | ((with_reducible refine gate_dst (N := 11) rfl ?_); refine box_event ?hg (N := 11) ?hd (cs := #[.int .i64 0, .string (⟨#[]⟩ : ByteArray)]) (t := 60) ?hr ?_; (case hd => rfl); (case hg => rfl); (case hr => first | (go_simp; done) | (go_simp; rfl)); intro gb395 hg w22 hbox hb; have n0_ := Aside0.mk (Kd.R_below (Kd.R_elderB (by (with_reducible repeat (first | apply Kd.R_alloc | apply Kd.R_drewN | apply Kd.R_drew)); exact HO_9.out) gb395 (Nat.le_of_eq hg.symm)) hb); have n1_ := Aside0.mk (below_step z10_ hb); have n2_ := Aside0.mk (hbox); have n3_ := Aside0.mk ((by rw [hg]; exact (below_size z10_) : w.heap.size ≤ gb395)); have n4_ := Aside0.mk ((by rw [hg]; exact (below_size z10_) : w.heap.size ≤ gb395)); clear HO_9; clear HB; have HO_9 := n0_; have HB := n1_; have BK395 := n2_; have GW395 := n3_; have GE395 := n4_; clear n0_ n1_ n2_ n3_ n4_; clear hb hbox hg; have hcz23_0 : w22.cell? ⟨gb395, 0, none⟩ = some (.int .i64 0) := (blk_cell BK395.out 0).trans rfl; have hcz23_1 : w22.cell? ⟨gb395, 1, none⟩ = some (.string (⟨#[]⟩ : ByteArray)) := (blk_cell BK395.out 1).trans rfl; have hfz23_0 := blk_frozen BK395.out 0; have hfz23_1 := blk_frozen BK395.out 1) | (refine gz (f := 61) rfl (some 46) rfl Tryz.func61 (whole_Quo.calls ((rd_T60 l0 x38_2).f1) x5_1 t396 t397 _ A19.out (Aside0.mk (Tabs.below HT.out z4_))) ?_; rintro w24 hb; have n0_ := Aside0.mk (Kd.R_below (by (with_reducible repeat (first | apply Kd.R_alloc | apply Kd.R_drewN | apply Kd.R_drew)); exact (Kd.R_mono (Kd.R_far (p := ⟨gb395, 1, none⟩) (Kd.R_far (p := ⟨gb395, 0, none⟩) (Kd.R_mono HO_9.out (fun k_ hk => (⟨hk, hk.2⟩ : _ ∧ k_ ≠ gb395))) (fun _ hk => hk.2) (.int .i64 ((rd_T60 l0 x38_2).f0))) (fun _ hk => hk.2) (.string ((rd_T60 l0 x38_2).f1))) (fun _ h_ => h_.1))) hb); have n1_ := Aside0.mk (blk_below (g := gb395) (o := .cells #[.int .i64 ((rd_T60 l0 x38_2).f0), .string ((rd_T60 l0 x38_2).f1)] 60 (0, 0)) z2_ hb); have n2_ := Aside0.mk (below_step z5_ hb); clear HO_9; clear BK395; clear HB; have HO_9 := n0_; have BK395 := n1_; have HB := n2_; clear n0_ n1_ n2_; (try clear hb); (try clear hb2); (try clear hk); (try clear hi); have hcz25_0 : w24.cell? ⟨gb395, 0, none⟩ = some (.int .i64 ((rd_T60 l0 x38_2).f0)) := (blk_cell BK395.out 0).trans rfl; have hcz25_1 : w24.cell? ⟨gb395, 1, none⟩ = some (.string ((rd_T60 l0 x38_2).f1)) := (blk_cell BK395.out 1).trans rfl; have hfz25_0 := blk_frozen BK395.out 0; have hfz25_1 := blk_frozen BK395.out 1) | ((with_reducible refine gate_builtin (b := .append) (xs := #[.tmp 52, .tmp 57]) rfl ?_); at_builtin; refine Kd.R_append k60 (w0 := w) w.heap.size rfl (.tmp 52) (.tmp 57) 22 60 (.agg #[(.int .i64 0), (.string ⟨#[]⟩)]) 24 rfl Tryz.underlying22 info60 rfl (by decide) (by omega) u9 x9_2 (⟨(rd_T60 l0 x38_2).f0, t396⟩ : S60) [.int .i64 ((rd_T60 l0 x38_2).f0), .string t396] (fun k_ => k_ ≠ gb395) (fun _ => False) rfl rfl ?aP (fun _ hk => hk.elim) ?aF ?aO ?aB ?aS ?aL ?_; (case aP => exact k60_mkM _ _ _ (⟨(rd_T60 l0 x38_2).f0, t396⟩ : S60)); (case aB => exact z5_); (case aF => exact (fun k_ hk => Kd.freshB (g := gb395) (o := .cells #[.int .i64 ((rd_T60 l0 x38_2).f0), .string ((rd_T60 l0 x38_2).f1)] 60 (0, 0)) (by (with_reducible repeat (first | refine blk_drewN ?_ _ | refine blk_drew ?_ | refine blk_alloc ?_ _)); exact BK395.out) k_ hk)); (case aO => exact (by (with_reducible repeat (first | apply Kd.R_alloc | apply Kd.R_drewN | apply Kd.R_drew)); exact Kd.R_mono HO_9.out (fun _ hk => hk.2))); (case aS => exact (below_size z5_)); (case aL => have := LMc21.out; omega); intro v399 w26 ho hb hg hat; rw [← Ny398.out] at ho; have n0_ := Aside0.mk (blk_grown (g := gb395) (o := .cells #[.int .i64 ((rd_T60 l0 x38_2).f0), .string ((rd_T60 l0 x38_2).f1)] 60 (0, 0)) (by (with_reducible repeat (first | refine blk_drewN ?_ _ | refine blk_drew ?_ | refine blk_alloc ?_ _)); exact BK395.out) hg (Kd.R_away HO_9.out (fun _ hk => hk.2))); have n1_ := Aside0.mk (hb); have n2_ := Aside0.mk (ho); clear BK395; clear HB; clear HO_9; have BK395 := n0_; have HB := n1_; have HO400 := n2_; clear n0_ n1_ n2_; clear ho hb hg hat))
            go_roundg k2
            case measure => have := HK1.out; have := HK2.out; omega
            case rel => exact ⟨(y398), (wrap64 (x38_2 + 1)), z25_, H', ⟨by have := HK1.out; have := HK2.out; omega⟩, ⟨by (with_reducible repeat (first | apply Kd.R_alloc | apply Kd.R_drewN | apply Kd.R_drew)); exact Kd.R_mono HO400.out (fun _ hk => trivial)⟩, ⟨by repeat (first | (with_reducible first | exact HB.out | apply below_alloc | apply pw_below_drewN | apply below_drew1 | refine Go.Proofs.YtkdpcgmnkifbbaaGreatDoorW.PrintWords.below_set ?_ GE395.out) | exact HB.out)⟩⟩
           ·rw [if_neg c21] at H
            exact absurd H (by simp)
          ·rw [if_neg c20] at H
           have c20b0 := beq_eq_false_iff_ne.mpr c20
           have c20b1 := bne_iff_ne.mpr c20
           simp only [Option.some.injEq, Prod.mk.injEq] at H
           obtain ⟨rfl, rfl⟩ := H
           have p394 : 0 ≤ (x38_2 : Int) := of_decide_eq_true z26_
           have q394 : x38_2 < (l0.length : Int) := of_decide_eq_true z26_
           obtain ⟨ad394, e394, hx394_0, hx394_1⟩ := at_T60 HR0.out x38_2 p394 q394
           cases e394
           replace hx394_0 := (HB.out.cell (World.block_lt_of_cell? w _ hx394_0)).trans hx394_0
           replace hx394_1 := (HB.out.cell (World.block_lt_of_cell? w _ hx394_1)).trans hx394_1
           replace p394 := eq_true p394
           replace q394 := eq_true q394
           go_wp2_with (first | ((with_reducible refine gate_dst (N := 11) rfl ?_); refine box_event ?hg (N := 11) ?hd (cs := #[.int .i64 0, .string (⟨#[]⟩ : ByteArray)]) (t := 60) ?hr ?_; (case hd => rfl); (case hg => rfl); (case hr => first | (go_simp; done) | (go_simp; rfl)); intro gb395 hg w27 hbox hb; have n0_ := Aside0.mk (Kd.R_below (Kd.R_elderB (by (with_reducible repeat (first | apply Kd.R_alloc | apply Kd.R_drewN | apply Kd.R_drew)); exact HO_9.out) gb395 (Nat.le_of_eq hg.symm)) hb); have n1_ := Aside0.mk (below_step z10_ hb); have n2_ := Aside0.mk (hbox); have n3_ := Aside0.mk ((by rw [hg]; exact (below_size z10_) : w.heap.size ≤ gb395)); have n4_ := Aside0.mk ((by rw [hg]; exact (below_size z10_) : w.heap.size ≤ gb395)); clear HO_9; clear HB; have HO_9 := n0_; have HB := n1_; have BK395 := n2_; have GW395 := n3_; have GE395 := n4_; clear n0_ n1_ n2_ n3_ n4_; clear hb hbox hg; have hcz28_0 : w27.cell? ⟨gb395, 0, none⟩ = some (.int .i64 0) := (blk_cell BK395.out 0).trans rfl; have hcz28_1 : w27.cell? ⟨gb395, 1, none⟩ = some (.string (⟨#[]⟩ : ByteArray)) := (blk_cell BK395.out 1).trans rfl; have hfz28_0 := blk_frozen BK395.out 0; have hfz28_1 := blk_frozen BK395.out 1) | (refine gz (f := 61) rfl (some 46) rfl Tryz.func61 (whole_Quo.calls ((rd_T60 l0 x38_2).f1) x5_1 t396 t397 _ A19.out (Aside0.mk (Tabs.below HT.out z4_))) ?_; rintro w29 hb; have n0_ := Aside0.mk (Kd.R_below (by (with_reducible repeat (first | apply Kd.R_alloc | apply Kd.R_drewN | apply Kd.R_drew)); exact (Kd.R_mono (Kd.R_far (p := ⟨gb395, 1, none⟩) (Kd.R_far (p := ⟨gb395, 0, none⟩) (Kd.R_mono HO_9.out (fun k_ hk => (⟨hk, hk.2⟩ : _ ∧ k_ ≠ gb395))) (fun _ hk => hk.2) (.int .i64 ((rd_T60 l0 x38_2).f0))) (fun _ hk => hk.2) (.string ((rd_T60 l0 x38_2).f1))) (fun _ h_ => h_.1))) hb); have n1_ := Aside0.mk (blk_below (g := gb395) (o := .cells #[.int .i64 ((rd_T60 l0 x38_2).f0), .string ((rd_T60 l0 x38_2).f1)] 60 (0, 0)) z2_ hb); have n2_ := Aside0.mk (below_step z5_ hb); clear HO_9; clear BK395; clear HB; have HO_9 := n0_; have BK395 := n1_; have HB := n2_; clear n0_ n1_ n2_; (try clear hb); (try clear hb2); (try clear hk); (try clear hi)))
           go_ret2
           exact ⟨_, z24_, by first | exact Kd.R_nil _ _ _ _ _ | exact Kd.N_nil _ _ _ _ _ | exact Kd.V_nil _ _ _ _ _ | exact Kd.Q_nil _ _ _ _ _ | exact Kd.S_nil _ _ _ _ _, by repeat (first | (with_reducible first | exact HB.out | apply below_alloc | apply pw_below_drewN | apply below_drew1 | refine Go.Proofs.YtkdpcgmnkifbbaaGreatDoorW.PrintWords.below_set ?_ GE395.out) | exact HB.out)⟩
         ·rw [if_neg c18] at H
          exact absurd H (by simp)
        ·rw [if_neg c17] at H
         exact absurd H (by simp)
       ·rw [if_neg c16] at H
        have c16b0 : decide (x38_2 < (l0.length : Int)) = false := decide_eq_false c16
        clear c16
        simp only [Option.some.injEq, Prod.mk.injEq] at H
        obtain ⟨rfl, rfl⟩ := H
        go_wp2
        go_ret2
        exact ⟨_, z24_, by (with_reducible repeat (first | apply Kd.R_alloc | apply Kd.R_drewN | apply Kd.R_drew)); exact HO_9.out, z10_⟩
 ·rw [if_neg c3] at H
  have c3b0 := beq_eq_false_iff_ne.mpr c3
  have c3b1 := bne_iff_ne.mpr c3
  simp only [Option.some.injEq, Prod.mk.injEq] at H
  obtain ⟨rfl, rfl⟩ := H
  go_enter Tryz.func29, Tryz.ntmps29
  go_wp2_with (first | ((with_reducible refine gate_callee (f := 20) rfl ?_); refine goesL_ (some 15) rfl rfl Tryz.func20 (by kernel_rfl) rfl #[.slice A0 l0.length c0] rfl z9_ ?_; (with_reducible refine (dist_Check.calls _ _ l0 t389 _ ?side1 ?side2 A2.out).mono ?_); (case side1 => repeat (first | exact HR0.out | (with_reducible refine Kd.C_alloc ?_ _) | (with_reducible refine Kd.C_drewN ?_ _) | (with_reducible refine Kd.C_drew ?_))); (case side2 => exact HC0.out); rintro e w30 ⟨rfl, hb⟩; refine ⟨_, rfl, ?_⟩; replace HB := Aside0.mk (below_step z10_ hb); clear hb))
  go_ret2
  exact ⟨_, z24_, by first | exact Kd.R_nil _ _ _ _ _ | exact Kd.N_nil _ _ _ _ _ | exact Kd.V_nil _ _ _ _ _ | exact Kd.Q_nil _ _ _ _ _ | exact Kd.S_nil _ _ _ _ _, z10_⟩
end Go.Proofs.YtkdpcgmnkifbbaaGreatDoor.D
