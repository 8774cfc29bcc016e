/- Joined by a program of this session out of its texts, with only what the last theorem needs: Dx3. No conditions but those stated. -/
import Derived.Test.YtkdpcgmnkifbbaaGreatDoorZC07
import Derived.Test.YtkdpcgmnkifbbaaGreatDoorZC29
set_option linter.unusedVariables false
set_option linter.unusedSimpArgs false
namespace Go.Proofs.YtkdpcgmnkifbbaaGreatDoorW.PrintLast
end Go.Proofs.YtkdpcgmnkifbbaaGreatDoorW.PrintLast
namespace Go.Proofs.YtkdpcgmnkifbbaaGreatDoorW.PrintMore
end Go.Proofs.YtkdpcgmnkifbbaaGreatDoorW.PrintMore
namespace Go.Proofs.YtkdpcgmnkifbbaaGreatDoorW.PrintWords
end Go.Proofs.YtkdpcgmnkifbbaaGreatDoorW.PrintWords
namespace Go.Proofs.YtkdpcgmnkifbbaaGreatDoor.D
open Go.RowKit Go.Proofs.YtkdpcgmnkifbbaaGreatDoorW.PrintWords Go.Proofs.YtkdpcgmnkifbbaaGreatDoorW.PrintLast Go.Proofs.YtkdpcgmnkifbbaaGreatDoorW.PrintMore
attribute [local go_sem] max2_int min2_int max_two min_two max_three min_three max_four min_four
set_option linter.unusedVariables false
set_option linter.unusedSimpArgs false
def dist_powers.l0 : Nat → Int → List ByteArray → Int → Int → Option (List ByteArray × Int)
 | 0, _, _, _, _ => none
 | k + 1, x0, x6, x11, x12 => if x12 < x11 then (if 0 ≤ x12 then (if x12 < (x6.length : Int) then ((whole_Of.f x0).bind fun t119 => ((whole_Mul.f (rdOf ByteArray.empty x6 x12) t119).bind fun bt120 => (if bt120.2 = 0 then (if x6.length < 8796093022208 then (dist_powers.l0 k x0 (x6 ++ [bt120.1]) x11 (wrap64 (x12 + 1))) else (none)) else (some (([] : List ByteArray), bt120.2))))) else (none)) else (none)) else (some (x6, 0))
def dist_powers.f (k : Nat) (a0 : Int) (a1 : Int) : Option (List ByteArray × Int) := dist_powers.l0 k a0 (([(⟨#[49]⟩ : ByteArray)] : List ByteArray)) a1 0
def dist_powers.T5 : Bool × List (List Nat × List Nat) := (true, [([], []), ([], []), ([0, 1], [0, 1]), ([2], [2]), ([], []), ([4], [4]), ([3, 5, 5], [3, 5]), ([6], [6]), ([7], [7]), ([7], [7]), ([8, 6, 0, 1, 2, 3, 4, 5, 6, 7, 8], [8]), ([9, 10, 0, 1, 2, 3, 4, 5, 6, 7, 8, 9, 10], [9])])
def dist_powers.B5 : List Nat := [0, 0, 3, 7, 0, 16, 63, 127, 255, 255, 511, 2047]
theorem dist_powers.tab5 : rtab .any (opsOf Tryz.f54 5) = dist_powers.T5 := by kernel_rfl
theorem dist_powers.bits5 : waitsOk dist_powers.T5.2 dist_powers.B5 = true := by kernel_rfl
set_option maxHeartbeats 8000000 in
set_option maxRecDepth 100000 in
theorem dist_powers.calls (k : Nat) (a0 : Int) (a1 : Int) (r1 : List ByteArray) (r2 : Int) (w : World) (h : dist_powers.f k a0 a1 = some (r1, r2)) (HT : Aside0 (Tabs w)) :
  Calls Tryz.prog 54 #[.int .i64 a0, .int .i64 a1] w fun e w' => ∃ v0_ : Value, e = .returned (.tuple #[v0_, .int .i64 r2]) ∧ Kd.R Kd.string 39 w' w.heap.size (fun _ => True) v0_ r1 ∧ Below w.heap.size w w' := by
 have HB := Aside0.mk (Below.refl w.heap.size w)
 have H : (dist_powers.l0 k a0 (([(⟨#[49]⟩ : ByteArray)] : List ByteArray)) a1 0) = some (r1, r2) := h
 clear h
 obtain ⟨y115, hy115⟩ : ∃ y_ : List ByteArray, y_ = (([(⟨#[49]⟩ : ByteArray)] : List ByteArray)) := ⟨_, rfl⟩
 replace H : (dist_powers.l0 k a0 y115 a1 0) = some (r1, r2) := by first | (rw [hy115]; with_reducible exact H) | (have H2_ := (Option.bind_some _ _).symm.trans H; rw [hy115]; with_reducible exact H2_) | (have H2_ := (Option.bind_some _ _).symm.trans H; with_reducible exact H2_) | with_reducible exact H | (rw [hy115]; exact H) | exact H
 have Ny115 := Aside0.mk hy115
 clear hy115
 have H' := Aside0.mk H
 clear H
 go_enter Tryz.func54, Tryz.ntmps54
 go_wp2_with (first | ((with_reducible refine gate_dst (N := 10) rfl ?_); refine Kd.R_lit Kd.string _ 39 ?hg (N := 10) ?hd (xs := ([(⟨#[49]⟩ : ByteArray)] : List ByteArray)) (inner := [.string (⟨#[49]⟩ : ByteArray)]) (ok := fun _ => True) (okp := fun _ => True) ?hr ?hp (fun _ hk => hk) trivial (Below.refl _ _) (Nat.le_refl _) (by simp) ?_; (case hd => rfl); (case hg => rfl); (case hr => first | (go_simp; done) | (go_simp; rfl)); (case hp => exact (Reps.one (show Kd.M Kd.string _ _ _ (⟨#[49]⟩ : ByteArray) [.string (⟨#[49]⟩ : ByteArray)] from rfl) (Reps.none _ _))); intro v116 w3 ho4 hb hg_ hnew_; clear hg_ hnew_; (first | rw [← Ny115.out] at ho4 | (simp only [Int.reduceToNat] at ho4; rw [← Ny115.out] at ho4)); have n0_ := Aside0.mk (Kd.R_lower ho4 (below_size z10_)); have n1_ := Aside0.mk (below_step z10_ hb); clear HB; have HO117 := n0_; have HB := n1_; clear n0_ n1_; clear hb ho4))
 go_loopg [6, 12] k (fun kq v6 v12 w' => ∃ (x6_1 : List ByteArray) (x12_1 : Int), v12 = .int .i64 x12_1 ∧ Aside0 (dist_powers.l0 kq a0 x6_1 a1 x12_1 = some (r1, r2)) ∧ Aside0 (kq ≤ k) ∧ Aside0 (Kd.R Kd.string 39 w' w.heap.size (fun _ => True) v6 x6_1) ∧ Aside0 (Below w.heap.size w w'))
 case atStart => exact ⟨(y115), (0), z25_, H', ⟨Nat.le_refl _⟩, ⟨by (with_reducible repeat (first | apply Kd.R_alloc | apply Kd.R_drewN | apply Kd.R_drew)); first | exact HO117.out | (simp only [w64_m256]; exact HO117.out)⟩, ⟨by repeat (first | (with_reducible first | exact HB.out | apply below_alloc | apply pw_below_drewN | apply below_drew1) | exact HB.out)⟩⟩
 case round =>
  clear H'
  try clear p2
  obtain ⟨x6_1, x12_1, rfl, HA, HK1, HO_6, HB⟩ := hrel
  cases gk with
  | zero => exact absurd HA.out (by simp [dist_powers.l0])
  | succ k1 =>
   have H := HA.out
   clear HA
   simp only [dist_powers.l0] at H
   by_cases c5 : x12_1 < a1
   ·rw [if_pos c5] at H
    have c5b0 : decide (x12_1 < a1) = true := decide_eq_true c5
    clear c5
    by_cases c6 : 0 ≤ x12_1
    ·rw [if_pos c6] at H
     have c6b0 : decide (0 ≤ x12_1) = true := decide_eq_true c6
     clear c6
     by_cases c7 : x12_1 < (x6_1.length : Int)
     ·rw [if_pos c7] at H
      have c7b0 : decide (x12_1 < (x6_1.length : Int)) = true := decide_eq_true c7
      clear c7
      obtain ⟨t119, A8, H⟩ := bindA H
      obtain ⟨⟨t120, t121⟩, A9, H⟩ := bindA H
      dsimp only at H
      by_cases c10 : t121 = 0
      ·rw [if_pos c10] at H
       have c10b0 := beq_iff_eq.mpr c10
       have c10b1 := bne_eq_false_iff_eq.mpr c10
       clear c10
       by_cases c11 : x6_1.length < 8796093022208
       ·rw [if_pos c11] at H
        have LMc11 := Aside0.mk c11
        clear c11
        obtain ⟨y122, hy122⟩ : ∃ y_ : List ByteArray, y_ = (x6_1 ++ [t120]) := ⟨_, rfl⟩
        replace H : (dist_powers.l0 k1 a0 y122 a1 (wrap64 (x12_1 + 1))) = some (r1, r2) := by first | (rw [hy122]; with_reducible exact H) | (have H2_ := (Option.bind_some _ _).symm.trans H; rw [hy122]; with_reducible exact H2_) | (have H2_ := (Option.bind_some _ _).symm.trans H; with_reducible exact H2_) | with_reducible exact H | (rw [hy122]; exact H) | exact H
        have Ny122 := Aside0.mk hy122
        clear hy122
        have H' := Aside0.mk H
        clear H
        try go_wp2
        have n0_ := Aside0.mk (Kd.R_drew HO_6.out)
        have n1_ := Aside0.mk (below_drew1 HB.out)
        clear HO_6
        clear HB
        have HO_6 := n0_
        have HB := n1_
        clear n0_ n1_
        obtain ⟨Ao13, co13, eo13⟩ := Kd.R_slice HO_6.out
        (first | subst eo13 | (injection eo13 with f1_ f2_ f3_; have f4_ := f1_.symm; have f5_ := f3_.symm; clear f1_ f2_ f3_; subst f4_; subst f5_))
        have p118 : 0 ≤ (x12_1 : Int) := of_decide_eq_true z26_
        have q118 : x12_1 < (x6_1.length : Int) := of_decide_eq_true z26_
        obtain ⟨ad118, e118, hx118_0⟩ := Kd.at_string (Kd.R_reads' HO_6.out).2.2 x12_1 p118 q118
        cases e118
        replace p118 := eq_true p118
        replace q118 := eq_true q118
        refine start_ (n := 12) (S := fun w' => w'.cell? (ad118.add (x12_1).toNat) = some (.string (rdOf ByteArray.empty x6_1 x12_1))) (ds := []) #[false, false, false, false, false, false, false, false, false, false, false, false] (by kernel_rfl) rfl rfl (hx118_0) (fun hHeld => ?_); refine with_tabW dist_powers.tab5 dist_powers.bits5 (fun HT_ HW_ => ?_)
        generalize wr.drew = w12 at HO_6 HB hx118_0 hHeld ⊢
        refine pu_ (i := 0) (N := some 16) #[true, false, false, false, false, false, false, false, false, false, false, false] HT_.out ?_
        refine pu_ (i := 1) (N := some 17) #[true, true, false, false, false, false, false, false, false, false, false, false] HT_.out ?_
        refine pu_ (i := 2) (N := some 18) #[true, true, true, false, false, false, false, false, false, false, false, false] HT_.out ?_
        refine pu_ (i := 4) (N := some 20) #[true, true, true, false, true, false, false, false, false, false, false, false] HT_.out ?_
        refine take_ (i := 3) (N := some 19) (v := ?_) (a' := ?_) #[true, true, true, true, true, false, false, false, false, false, false, false] rfl rfl (take_ofW HT_.out HW_.out (by kernel_rfl)) (fun _ _ _ h => h) (Or.inl ⟨by rfl, ?_⟩) hHeld ?_ ?_
        rotate_left
        ·intro w' s0
         go_simp
         with_reducible rfl
        rotate_left
        ·simp only [Act.put, List.setIfInBounds_toArray, List.set_cons_zero, List.set_cons_succ, i64_w, i32_w]
         rfl
        refine one_ (i := 5) (N := some 21) #[true, true, true, true, true, true, false, false, false, false, false, false] rfl rfl (one_of HT_.out (by kernel_rfl)) (by decide) (fun K hK => ?_)
        refine goes_ Tryz.func79 (by kernel_rfl) rfl #[.int .i64 a0] (by rfl) rfl rfl z9_ ?_
        with_reducible refine (whole_Of.calls a0 t119 _ A8.out (Aside0.mk (Tabs.below HT.out z4_))).mono ?_
        rintro e w14 ⟨rfl, hb⟩
        have HS0_ := (hb.cell (World.block_lt_of_cell? _ _ (hHeld))).trans (hHeld)
        refine ⟨_, rfl, ?_⟩
        have n0_ := Aside0.mk (Kd.R_below (by (with_reducible repeat (first | apply Kd.R_alloc | apply Kd.R_drewN | apply Kd.R_drew)); exact HO_6.out) hb)
        have n1_ := Aside0.mk (below_step z10_ hb)
        clear HO_6
        clear HB
        have HO_6 := n0_
        have HB := n1_
        clear n0_ n1_
        (try clear hb)
        (try clear hb2)
        (try clear hk)
        (try clear hi)
        refine hK.out _ _ (HS0_) (fun hHeld => ?_)
        clear hK K
        refine norm_ (a' := ?_) ?_ ?_
        rotate_left
        ·show Act.put _ (some 21) _ = _
         simp only [Act.put, List.setIfInBounds_toArray, List.set_cons_zero, List.set_cons_succ, i64_w, i32_w]
         rfl
        refine one_ (i := 6) (N := some 22) #[true, true, true, true, true, true, true, false, false, false, false, false] rfl rfl (one_of HT_.out (by kernel_rfl)) (by decide) (fun K hK => ?_)
        refine goes_ Tryz.func78 (by kernel_rfl) rfl #[.string (rdOf ByteArray.empty x6_1 x12_1), .string t119] (by rfl) rfl rfl z9_ ?_
        with_reducible refine (whole_Mul.calls (rdOf ByteArray.empty x6_1 x12_1) t119 t120 t121 _ A9.out (Aside0.mk (Tabs.below HT.out z4_))).mono ?_
        rintro e w15 ⟨rfl, hb⟩
        have HS0_ := (hb.cell (World.block_lt_of_cell? _ _ (hHeld))).trans (hHeld)
        refine ⟨_, rfl, ?_⟩
        have n0_ := Aside0.mk (Kd.R_below (by (with_reducible repeat (first | apply Kd.R_alloc | apply Kd.R_drewN | apply Kd.R_drew)); exact HO_6.out) hb)
        have n1_ := Aside0.mk (below_step z10_ hb)
        clear HO_6
        clear HB
        have HO_6 := n0_
        have HB := n1_
        clear n0_ n1_
        (try clear hb)
        (try clear hb2)
        (try clear hk)
        (try clear hi)
        refine hK.out _ _ (HS0_) (fun hHeld => ?_)
        clear hK K
        refine norm_ (a' := ?_) ?_ ?_
        rotate_left
        ·show Act.put _ (some 22) _ = _
         simp only [Act.put, List.setIfInBounds_toArray, List.set_cons_zero, List.set_cons_succ, i64_w, i32_w]
         rfl
        refine pu_ (i := 7) (N := some 15) #[true, true, true, true, true, true, true, true, false, false, false, false] HT_.out ?_
        refine pu_ (i := 8) (N := some 23) #[true, true, true, true, true, true, true, true, true, false, false, false] HT_.out ?_
        refine pu_ (i := 9) (N := some 24) #[true, true, true, true, true, true, true, true, true, true, false, false] HT_.out ?_
        refine pu_ (i := 10) (N := some 8) #[true, true, true, true, true, true, true, true, true, true, true, false] HT_.out ?_
        refine pu_ (i := 11) (N := some 9) #[true, true, true, true, true, true, true, true, true, true, true, true] HT_.out ?_
        refine done_ (done_of HT_.out (by kernel_rfl)) ?_
        try go_wp2_with (first | ((with_reducible refine gate_builtin (b := .append) (xs := #[.tmp 28, .tmp 30]) rfl ?_); at_builtin; refine Kd.R_append Kd.string (w0 := w) w.heap.size rfl (.tmp 28) (.tmp 30) 80 39 (.string ⟨#[]⟩) 16 rfl Tryz.underlying80 info39 rfl (by decide) (by omega) (.slice (some ad118) x6_1.length co13) x6_1 t120 [.string t120] (fun _ => True) (fun _ => False) rfl rfl ?aP (fun _ hk => hk.elim) ?aF ?aO ?aB ?aS ?aL ?_; (case aP => exact rfl); (case aB => exact z10_); (case aF => exact (fun _ _ => trivial)); (case aO => exact (by (with_reducible repeat (first | apply Kd.R_alloc | apply Kd.R_drewN | apply Kd.R_drew)); exact HO_6.out)); (case aS => exact (below_size z10_)); (case aL => have := LMc11.out; omega); intro v123 w16 ho hb hg hat; rw [← Ny122.out] at ho; have n0_ := Aside0.mk (hb); have n1_ := Aside0.mk (ho); clear HB; clear HO_6; have HB := n0_; have HO124 := n1_; clear n0_ n1_; clear ho hb hg hat))
        go_roundg k1
        case measure => have := HK1.out; omega
        case rel => exact ⟨(y122), (wrap64 (x12_1 + 1)), z25_, H', ⟨by have := HK1.out; omega⟩, ⟨by (with_reducible repeat (first | apply Kd.R_alloc | apply Kd.R_drewN | apply Kd.R_drew)); first | exact HO124.out | (simp only [w64_m256]; exact HO124.out)⟩, ⟨by repeat (first | (with_reducible first | exact HB.out | apply below_alloc | apply pw_below_drewN | apply below_drew1) | exact HB.out)⟩⟩
       ·rw [if_neg c11] at H
        exact absurd H (by simp)
      ·rw [if_neg c10] at H
       have c10b0 := beq_eq_false_iff_ne.mpr c10
       have c10b1 := bne_iff_ne.mpr c10
       simp only [Option.some.injEq, Prod.mk.injEq] at H
       obtain ⟨rfl, rfl⟩ := H
       try go_wp2
       have n0_ := Aside0.mk (Kd.R_drew HO_6.out)
       have n1_ := Aside0.mk (below_drew1 HB.out)
       clear HO_6
       clear HB
       have HO_6 := n0_
       have HB := n1_
       clear n0_ n1_
       obtain ⟨Ao18, co18, eo18⟩ := Kd.R_slice HO_6.out
       (first | subst eo18 | (injection eo18 with f1_ f2_ f3_; have f4_ := f1_.symm; have f5_ := f3_.symm; clear f1_ f2_ f3_; subst f4_; subst f5_))
       have p118 : 0 ≤ (x12_1 : Int) := of_decide_eq_true z26_
       have q118 : x12_1 < (x6_1.length : Int) := of_decide_eq_true z26_
       obtain ⟨ad118, e118, hx118_0⟩ := Kd.at_string (Kd.R_reads' HO_6.out).2.2 x12_1 p118 q118
       cases e118
       replace p118 := eq_true p118
       replace q118 := eq_true q118
       refine start_ (n := 12) (S := fun w' => w'.cell? (ad118.add (x12_1).toNat) = some (.string (rdOf ByteArray.empty x6_1 x12_1))) (ds := []) #[false, false, false, false, false, false, false, false, false, false, false, false] (by kernel_rfl) rfl rfl (hx118_0) (fun hHeld => ?_); refine with_tabW dist_powers.tab5 dist_powers.bits5 (fun HT_ HW_ => ?_)
       generalize wr.drew = w17 at HO_6 HB hx118_0 hHeld ⊢
       refine pu_ (i := 0) (N := some 16) #[true, false, false, false, false, false, false, false, false, false, false, false] HT_.out ?_
       refine pu_ (i := 1) (N := some 17) #[true, true, false, false, false, false, false, false, false, false, false, false] HT_.out ?_
       refine pu_ (i := 2) (N := some 18) #[true, true, true, false, false, false, false, false, false, false, false, false] HT_.out ?_
       refine pu_ (i := 4) (N := some 20) #[true, true, true, false, true, false, false, false, false, false, false, false] HT_.out ?_
       refine take_ (i := 3) (N := some 19) (v := ?_) (a' := ?_) #[true, true, true, true, true, false, false, false, false, false, false, false] rfl rfl (take_ofW HT_.out HW_.out (by kernel_rfl)) (fun _ _ _ h => h) (Or.inl ⟨by rfl, ?_⟩) hHeld ?_ ?_
       rotate_left
       ·intro w' s0
        go_simp
        with_reducible rfl
       rotate_left
       ·simp only [Act.put, List.setIfInBounds_toArray, List.set_cons_zero, List.set_cons_succ, i64_w, i32_w]
        rfl
       refine one_ (i := 5) (N := some 21) #[true, true, true, true, true, true, false, false, false, false, false, false] rfl rfl (one_of HT_.out (by kernel_rfl)) (by decide) (fun K hK => ?_)
       refine goes_ Tryz.func79 (by kernel_rfl) rfl #[.int .i64 a0] (by rfl) rfl rfl z9_ ?_
       with_reducible refine (whole_Of.calls a0 t119 _ A8.out (Aside0.mk (Tabs.below HT.out z4_))).mono ?_
       rintro e w19 ⟨rfl, hb⟩
       have HS0_ := (hb.cell (World.block_lt_of_cell? _ _ (hHeld))).trans (hHeld)
       refine ⟨_, rfl, ?_⟩
       have n0_ := Aside0.mk (Kd.R_below (by (with_reducible repeat (first | apply Kd.R_alloc | apply Kd.R_drewN | apply Kd.R_drew)); exact HO_6.out) hb)
       have n1_ := Aside0.mk (below_step z10_ hb)
       clear HO_6
       clear HB
       have HO_6 := n0_
       have HB := n1_
       clear n0_ n1_
       (try clear hb)
       (try clear hb2)
       (try clear hk)
       (try clear hi)
       refine hK.out _ _ (HS0_) (fun hHeld => ?_)
       clear hK K
       refine norm_ (a' := ?_) ?_ ?_
       rotate_left
       ·show Act.put _ (some 21) _ = _
        simp only [Act.put, List.setIfInBounds_toArray, List.set_cons_zero, List.set_cons_succ, i64_w, i32_w]
        rfl
       refine one_ (i := 6) (N := some 22) #[true, true, true, true, true, true, true, false, false, false, false, false] rfl rfl (one_of HT_.out (by kernel_rfl)) (by decide) (fun K hK => ?_)
       refine goes_ Tryz.func78 (by kernel_rfl) rfl #[.string (rdOf ByteArray.empty x6_1 x12_1), .string t119] (by rfl) rfl rfl z9_ ?_
       with_reducible refine (whole_Mul.calls (rdOf ByteArray.empty x6_1 x12_1) t119 t120 t121 _ A9.out (Aside0.mk (Tabs.below HT.out z4_))).mono ?_
       rintro e w20 ⟨rfl, hb⟩
       have HS0_ := (hb.cell (World.block_lt_of_cell? _ _ (hHeld))).trans (hHeld)
       refine ⟨_, rfl, ?_⟩
       have n0_ := Aside0.mk (Kd.R_below (by (with_reducible repeat (first | apply Kd.R_alloc | apply Kd.R_drewN | apply Kd.R_drew)); exact HO_6.out) hb)
       have n1_ := Aside0.mk (below_step z10_ hb)
       clear HO_6
       clear HB
       have HO_6 := n0_
       have HB := n1_
       clear n0_ n1_
       (try clear hb)
       (try clear hb2)
       (try clear hk)
       (try clear hi)
       refine hK.out _ _ (HS0_) (fun hHeld => ?_)
       clear hK K
       refine norm_ (a' := ?_) ?_ ?_
       rotate_left
       ·show Act.put _ (some 22) _ = _
        simp only [Act.put, List.setIfInBounds_toArray, List.set_cons_zero, List.set_cons_succ, i64_w, i32_w]
        rfl
       refine pu_ (i := 7) (N := some 15) #[true, true, true, true, true, true, true, true, false, false, false, false] HT_.out ?_
       refine pu_ (i := 8) (N := some 23) #[true, true, true, true, true, true, true, true, true, false, false, false] HT_.out ?_
       refine pu_ (i := 9) (N := some 24) #[true, true, true, true, true, true, true, true, true, true, false, false] HT_.out ?_
       refine pu_ (i := 10) (N := some 8) #[true, true, true, true, true, true, true, true, true, true, true, false] HT_.out ?_
       refine pu_ (i := 11) (N := some 9) #[true, true, true, true, true, true, true, true, true, true, true, true] HT_.out ?_
       refine done_ (done_of HT_.out (by kernel_rfl)) ?_
       try go_wp2
       go_ret2
       exact ⟨_, z24_, by first | exact Kd.R_nil _ _ _ _ _ | exact Kd.N_nil _ _ _ _ _ | exact Kd.V_nil _ _ _ _ _ | exact Kd.Q_nil _ _ _ _ _ | exact Kd.S_nil _ _ _ _ _, z10_⟩
     ·rw [if_neg c7] at H
      exact absurd H (by simp)
    ·rw [if_neg c6] at H
     exact absurd H (by simp)
   ·rw [if_neg c5] at H
    have c5b0 : decide (x12_1 < a1) = false := decide_eq_false c5
    clear c5
    simp only [Option.some.injEq, Prod.mk.injEq] at H
    obtain ⟨rfl, rfl⟩ := H
    go_wp2
    go_ret2
    exact ⟨_, z24_, by (with_reducible repeat (first | apply Kd.R_alloc | apply Kd.R_drewN | apply Kd.R_drew)); exact HO_6.out, z10_⟩
def dist_product.l0 : Nat → ByteArray → List ByteArray → Int → Int → Option (ByteArray × Int)
 | 0, _, _, _, _ => none
 | k + 1, x4, x8, x9, x10 => if x10 < x9 then (if 0 ≤ x10 then (if x10 < (x8.length : Int) then ((whole_Mul.f x4 (rdOf ByteArray.empty x8 x10)).bind fun bt126 => (if bt126.2 = 0 then (dist_product.l0 k bt126.1 x8 x9 (wrap64 (x10 + 1))) else (some ((⟨#[]⟩ : ByteArray), bt126.2)))) else (none)) else (none)) else (some (x4, 0))
def dist_product.f (k : Nat) (l0 : List ByteArray) : Option (ByteArray × Int) := dist_product.l0 k (⟨#[49]⟩ : ByteArray) l0 (l0.length : Int) 0
set_option maxHeartbeats 8000000 in
set_option maxRecDepth 100000 in
theorem dist_product.calls (k : Nat) (A0 : Option Addr) (c0 : Nat) (l0 : List ByteArray) (r1 : ByteArray) (r2 : Int) (w : World) (hr0 : Kd.C Kd.string w A0 l0.length l0) (hc0 : l0.length ≤ c0) (h : dist_product.f k l0 = some (r1, r2)) (HT : Aside0 (Tabs w)) :
  Calls Tryz.prog 56 #[.slice A0 l0.length c0] w fun e w' => e = .returned (.tuple #[.string r1, .int .i64 r2]) ∧ Below w.heap.size w w' := by
 have HR0 := Aside0.mk hr0
 have HC0 := Aside0.mk hc0
 clear hr0 hc0
 have HB := Aside0.mk (Below.refl w.heap.size w)
 have H : (dist_product.l0 k (⟨#[49]⟩ : ByteArray) l0 (l0.length : Int) 0) = some (r1, r2) := h
 clear h
 have H' := Aside0.mk H
 clear H
 go_enter Tryz.func56, Tryz.ntmps56
 go_wp2
 go_loopg [4, 10] k (fun kq v4 v10 w' => ∃ (x4_1 : ByteArray) (x10_1 : Int), v4 = .string x4_1 ∧ v10 = .int .i64 x10_1 ∧ Aside0 (dist_product.l0 kq x4_1 l0 (l0.length : Int) x10_1 = some (r1, r2)) ∧ Aside0 (kq ≤ k) ∧ Aside0 (Below w.heap.size w w'))
 case atStart => exact ⟨((⟨#[49]⟩ : ByteArray)), (0), z25_, z25_, H', ⟨Nat.le_refl _⟩, ⟨by repeat (first | (with_reducible first | exact HB.out | apply below_alloc | apply pw_below_drewN | apply below_drew1) | exact HB.out)⟩⟩
 case round =>
  clear H'
  obtain ⟨x4_1, x10_1, rfl, rfl, HA, HK1, HB⟩ := hrel
  cases gk with
  | zero => exact absurd HA.out (by simp [dist_product.l0])
  | succ k1 =>
   have H := HA.out
   clear HA
   simp only [dist_product.l0] at H
   by_cases c2 : x10_1 < (l0.length : Int)
   ·rw [if_pos c2] at H
    have c2b0 : decide (x10_1 < (l0.length : Int)) = true := decide_eq_true c2
    clear c2
    by_cases c3 : 0 ≤ x10_1
    ·rw [if_pos c3] at H
     have c3b0 : decide (0 ≤ x10_1) = true := decide_eq_true c3
     clear c3
     by_cases c4 : x10_1 < (l0.length : Int)
     ·rw [if_pos c4] at H
      have c4b0 : decide (x10_1 < (l0.length : Int)) = true := decide_eq_true c4
      clear c4
      obtain ⟨⟨t126, t127⟩, A5, H⟩ := bindA H
      dsimp only at H
      by_cases c6 : t127 = 0
      ·rw [if_pos c6] at H
       have c6b0 := beq_iff_eq.mpr c6
       have c6b1 := bne_eq_false_iff_eq.mpr c6
       clear c6
       have H' := Aside0.mk H
       clear H
       have p125 : 0 ≤ (x10_1 : Int) := of_decide_eq_true z26_
       have q125 : x10_1 < (l0.length : Int) := of_decide_eq_true z26_
       obtain ⟨ad125, e125, hx125_0⟩ := Kd.at_string HR0.out x10_1 p125 q125
       cases e125
       replace hx125_0 := (HB.out.cell (World.block_lt_of_cell? w _ hx125_0)).trans hx125_0
       replace p125 := eq_true p125
       replace q125 := eq_true q125
       go_wp2_with (first | (refine gy (f := 78) rfl (some 17) rfl Tryz.func78 (whole_Mul.calls x4_1 (rdOf ByteArray.empty l0 x10_1) t126 t127 _ A5.out (Aside0.mk (Tabs.below HT.out z4_))) z10_ ?_; clear HB; intro w7 HB))
       go_roundg k1
       case measure => have := HK1.out; omega
       case rel => exact ⟨(t126), (wrap64 (x10_1 + 1)), z25_, z25_, H', ⟨by have := HK1.out; omega⟩, ⟨by repeat (first | (with_reducible first | exact HB.out | apply below_alloc | apply pw_below_drewN | apply below_drew1) | exact HB.out)⟩⟩
      ·rw [if_neg c6] at H
       have c6b0 := beq_eq_false_iff_ne.mpr c6
       have c6b1 := bne_iff_ne.mpr c6
       simp only [Option.some.injEq, Prod.mk.injEq] at H
       obtain ⟨rfl, rfl⟩ := H
       have p125 : 0 ≤ (x10_1 : Int) := of_decide_eq_true z26_
       have q125 : x10_1 < (l0.length : Int) := of_decide_eq_true z26_
       obtain ⟨ad125, e125, hx125_0⟩ := Kd.at_string HR0.out x10_1 p125 q125
       cases e125
       replace hx125_0 := (HB.out.cell (World.block_lt_of_cell? w _ hx125_0)).trans hx125_0
       replace p125 := eq_true p125
       replace q125 := eq_true q125
       go_wp2_with (first | (refine gy (f := 78) rfl (some 17) rfl Tryz.func78 (whole_Mul.calls x4_1 (rdOf ByteArray.empty l0 x10_1) t126 t127 _ A5.out (Aside0.mk (Tabs.below HT.out z4_))) z10_ ?_; clear HB; intro w8 HB))
       go_ret2
       exact ⟨z24_, z10_⟩
     ·rw [if_neg c4] at H
      exact absurd H (by simp)
    ·rw [if_neg c3] at H
     exact absurd H (by simp)
   ·rw [if_neg c2] at H
    have c2b0 : decide (x10_1 < (l0.length : Int)) = false := decide_eq_false c2
    clear c2
    simp only [Option.some.injEq, Prod.mk.injEq] at H
    obtain ⟨rfl, rfl⟩ := H
    go_wp2
    go_ret2
    exact ⟨z24_, z10_⟩
end Go.Proofs.YtkdpcgmnkifbbaaGreatDoor.D
