/- Joined by a program of this session out of its texts, with only what the last theorem needs: Lx1 Le EO Ex1 Rs Rm QO Qx1 Rq. No conditions but those stated. -/
import Derived.Test.YtkdpcgmnkifbbaaGreatDoorZM07
import Derived.Test.YtkdpcgmnkifbbaaGreatDoorZM13
import Derived.Test.YtkdpcgmnkifbbaaGreatDoorZM11
import Derived.Lib.IndexLaws
set_option linter.unusedVariables false
set_option linter.unusedSimpArgs false
namespace Go.Proofs.YtkdpcgmnkifbbaaGreatDoorW.PrintLast
end Go.Proofs.YtkdpcgmnkifbbaaGreatDoorW.PrintLast
namespace Go.Proofs.YtkdpcgmnkifbbaaGreatDoorW.PrintMore
end Go.Proofs.YtkdpcgmnkifbbaaGreatDoorW.PrintMore
namespace Go.Proofs.YtkdpcgmnkifbbaaGreatDoorW.PrintWords
end Go.Proofs.YtkdpcgmnkifbbaaGreatDoorW.PrintWords
section
namespace Go.Proofs.YtkdpcgmnkifbbaaGreatDoor.L
open Go.RowKit Go.Proofs.YtkdpcgmnkifbbaaGreatDoorW.PrintWords Go.Proofs.YtkdpcgmnkifbbaaGreatDoorW.PrintLast Go.Proofs.YtkdpcgmnkifbbaaGreatDoorW.PrintMore
attribute [local go_sem] max2_int min2_int max_two min_two max_three min_three max_four min_four
set_option linter.unusedVariables false
set_option linter.unusedSimpArgs false
def whole_Add.f (a0 : ByteArray) (a1 : ByteArray) : Option (ByteArray × Int) := (whole_all.f (([a0, a1] : List ByteArray))).bind fun t104 => (if t104 = 0 then ((whole_small.f a0 a1).bind fun bt105 => (if bt105.2.2 = true then ((whole_result.f (wrap64 (bt105.1 + bt105.2.1))).bind fun bt108 => (some (bt108.1, bt108.2))) else ((whole_sum.f (([a0, a1] : List ByteArray))).bind fun bt113 => (some (bt113.1, bt113.2))))) else (some ((⟨#[]⟩ : ByteArray), t104)))
set_option maxHeartbeats 8000000 in
set_option maxRecDepth 100000 in
theorem whole_Add.calls (a0 : ByteArray) (a1 : ByteArray) (r1 : ByteArray) (r2 : Int) (w : World) (h : whole_Add.f a0 a1 = some (r1, r2)) (HT : Aside0 (Tabs w)) :
  Calls Tryz.prog 75 #[.string a0, .string a1] w fun e w' => e = .returned (.tuple #[.string r1, .int .i64 r2]) ∧ Below w.heap.size w w' := by
 have HB := Aside0.mk (Below.refl w.heap.size w)
 have H : ((whole_all.f (([a0, a1] : List ByteArray))).bind fun t104 => (if t104 = 0 then ((whole_small.f a0 a1).bind fun bt105 => (if bt105.2.2 = true then ((whole_result.f (wrap64 (bt105.1 + bt105.2.1))).bind fun bt108 => (some (bt108.1, bt108.2))) else ((whole_sum.f (([a0, a1] : List ByteArray))).bind fun bt113 => (some (bt113.1, bt113.2))))) else (some ((⟨#[]⟩ : ByteArray), t104)))) = some (r1, r2) := h
 clear h
 obtain ⟨y101, hy101⟩ : ∃ y_ : List ByteArray, y_ = (([a0, a1] : List ByteArray)) := ⟨_, rfl⟩
 replace H : ((whole_all.f y101).bind fun t104 => (if t104 = 0 then ((whole_small.f a0 a1).bind fun bt105 => (if bt105.2.2 = true then ((whole_result.f (wrap64 (bt105.1 + bt105.2.1))).bind fun bt108 => (some (bt108.1, bt108.2))) else ((whole_sum.f (([a0, a1] : List ByteArray))).bind fun bt113 => (some (bt113.1, bt113.2))))) else (some ((⟨#[]⟩ : ByteArray), t104)))) = some (r1, r2) := by first | (rw [hy101]; with_reducible exact H) | (have H2_ := (Option.bind_some _ _).symm.trans H; rw [hy101]; with_reducible exact H2_) | (have H2_ := (Option.bind_some _ _).symm.trans H; with_reducible exact H2_) | with_reducible exact H | (rw [hy101]; exact H) | exact H
 have Ny101 := Aside0.mk hy101
 clear hy101
 obtain ⟨t104, A3, H⟩ := bindA H
 by_cases c4 : t104 = 0
 ·rw [if_pos c4] at H
  have c4b0 := beq_iff_eq.mpr c4
  have c4b1 := bne_eq_false_iff_eq.mpr c4
  clear c4
  obtain ⟨⟨t105, t106, t107⟩, A5, H⟩ := bindA H
  dsimp only at H
  by_cases c6 : t107 = true
  ·subst c6
   rw [if_pos rfl] at H
   obtain ⟨⟨t108, t109⟩, A7, H⟩ := bindA H
   dsimp only at H
   simp only [Option.some.injEq, Prod.mk.injEq] at H
   obtain ⟨rfl, rfl⟩ := H
   go_enter Tryz.func75, Tryz.ntmps75
   go_wp2_with (first | ((with_reducible refine gate_dst (N := 12) rfl ?_); refine Kd.R_lit Kd.string _ 39 ?hg (N := 12) ?hd (xs := ([a0, a1] : List ByteArray)) (inner := [.string a0, .string a1]) (ok := fun _ => True) (okp := fun _ => True) ?hr ?hp (fun _ hk => hk) trivial (Below.refl _ _) (Nat.le_refl _) (by simp) ?_; (case hd => rfl); (case hg => rfl); (case hr => first | (go_simp; done) | (go_simp; rfl)); (case hp => exact (Reps.one (show Kd.M Kd.string _ _ _ a0 [.string a0] from rfl) (Reps.one (show Kd.M Kd.string _ _ _ a1 [.string a1] from rfl) (Reps.none _ _)))); intro v102 w8 ho9 hb hg_ hnew_; clear hg_ hnew_; (first | rw [← Ny101.out] at ho9 | (simp only [Int.reduceToNat] at ho9; rw [← Ny101.out] at ho9)); have n0_ := Aside0.mk (Kd.R_lower ho9 (below_size z10_)); have n1_ := Aside0.mk (below_step z10_ hb); clear HB; have HO103 := n0_; have HB := n1_; clear n0_ n1_; clear hb ho9; obtain ⟨Ao10, co10, eo10⟩ := Kd.R_slice HO103.out; subst eo10) | ((with_reducible refine gate_callee (f := 101) rfl ?_); refine goesL_ (some 13) rfl rfl Tryz.func101 (by kernel_rfl) rfl #[.slice Ao10 y101.length co10] rfl z9_ ?_; (with_reducible refine (whole_all.calls _ _ y101 t104 _ ?side1 ?side2 A3.out).mono ?_); (case side1 => repeat (first | exact (Kd.R_reads' HO103.out).2.2 | (with_reducible refine Kd.C_alloc ?_ _) | (with_reducible refine Kd.C_drewN ?_ _) | (with_reducible refine Kd.C_drew ?_))); (case side2 => exact (Kd.R_reads' HO103.out).2.1); rintro e w11 ⟨rfl, hb⟩; refine ⟨_, rfl, ?_⟩; have n0_ := Aside0.mk (Kd.R_below z13_ hb); have n1_ := Aside0.mk (below_step z10_ hb); clear HO103; clear HB; have HO103 := n0_; have HB := n1_; clear n0_ n1_; (try clear hb); (try clear hb2); (try clear hk); (try clear hi)) | (refine gz (f := 114) rfl (some 20) rfl Tryz.func114 (whole_small.calls a0 a1 t105 t106 true _ A5.out) ?_; rintro w12 hb; have n0_ := Aside0.mk (Kd.R_below z13_ hb); have n1_ := Aside0.mk (below_step z10_ hb); clear HO103; clear HB; have HO103 := n0_; have HB := n1_; clear n0_ n1_; (try clear hb); (try clear hb2); (try clear hk); (try clear hi)) | (refine gz (f := 115) rfl (some 28) rfl Tryz.func115 (whole_result.calls (wrap64 (t105 + t106)) t108 t109 _ A7.out (Aside0.mk (Tabs.below HT.out z4_))) ?_; rintro w13 hb; have n0_ := Aside0.mk (Kd.R_below z13_ hb); have n1_ := Aside0.mk (below_step z10_ hb); clear HO103; clear HB; have HO103 := n0_; have HB := n1_; clear n0_ n1_; (try clear hb); (try clear hb2); (try clear hk); (try clear hi)))
   go_ret2
   exact ⟨z24_, z10_⟩
  ·replace c6 := Bool.eq_false_iff.mpr c6
   subst c6
   rw [if_neg (show ¬ (false = true) by decide)] at H
   obtain ⟨y110, hy110⟩ : ∃ y_ : List ByteArray, y_ = (([a0, a1] : List ByteArray)) := ⟨_, rfl⟩
   replace H : ((whole_sum.f y110).bind fun bt113 => (some (bt113.1, bt113.2))) = some (r1, r2) := by first | (rw [hy110]; with_reducible exact H) | (have H2_ := (Option.bind_some _ _).symm.trans H; rw [hy110]; with_reducible exact H2_) | (have H2_ := (Option.bind_some _ _).symm.trans H; with_reducible exact H2_) | with_reducible exact H | (rw [hy110]; exact H) | exact H
   have Ny110 := Aside0.mk hy110
   clear hy110
   obtain ⟨⟨t113, t114⟩, A14, H⟩ := bindA H
   dsimp only at H
   simp only [Option.some.injEq, Prod.mk.injEq] at H
   obtain ⟨rfl, rfl⟩ := H
   go_enter Tryz.func75, Tryz.ntmps75
   go_wp2_with (first | ((with_reducible refine gate_dst (N := 12) rfl ?_); refine Kd.R_lit Kd.string _ 39 ?hg (N := 12) ?hd (xs := ([a0, a1] : List ByteArray)) (inner := [.string a0, .string a1]) (ok := fun _ => True) (okp := fun _ => True) ?hr ?hp (fun _ hk => hk) trivial (Below.refl _ _) (Nat.le_refl _) (by simp) ?_; (case hd => rfl); (case hg => rfl); (case hr => first | (go_simp; done) | (go_simp; rfl)); (case hp => exact (Reps.one (show Kd.M Kd.string _ _ _ a0 [.string a0] from rfl) (Reps.one (show Kd.M Kd.string _ _ _ a1 [.string a1] from rfl) (Reps.none _ _)))); intro v102 w15 ho16 hb hg_ hnew_; clear hg_ hnew_; (first | rw [← Ny101.out] at ho16 | (simp only [Int.reduceToNat] at ho16; rw [← Ny101.out] at ho16)); have n0_ := Aside0.mk (Kd.R_lower ho16 (below_size z10_)); have n1_ := Aside0.mk (below_step z10_ hb); clear HB; have HO103 := n0_; have HB := n1_; clear n0_ n1_; clear hb ho16; obtain ⟨Ao17, co17, eo17⟩ := Kd.R_slice HO103.out; subst eo17) | ((with_reducible refine gate_callee (f := 101) rfl ?_); refine goesL_ (some 13) rfl rfl Tryz.func101 (by kernel_rfl) rfl #[.slice Ao17 y101.length co17] rfl z9_ ?_; (with_reducible refine (whole_all.calls _ _ y101 t104 _ ?side1 ?side2 A3.out).mono ?_); (case side1 => repeat (first | exact (Kd.R_reads' HO103.out).2.2 | (with_reducible refine Kd.C_alloc ?_ _) | (with_reducible refine Kd.C_drewN ?_ _) | (with_reducible refine Kd.C_drew ?_))); (case side2 => exact (Kd.R_reads' HO103.out).2.1); rintro e w18 ⟨rfl, hb⟩; refine ⟨_, rfl, ?_⟩; have n0_ := Aside0.mk (Kd.R_below z13_ hb); have n1_ := Aside0.mk (below_step z10_ hb); clear HO103; clear HB; have HO103 := n0_; have HB := n1_; clear n0_ n1_; (try clear hb); (try clear hb2); (try clear hk); (try clear hi)) | (refine gz (f := 114) rfl (some 20) rfl Tryz.func114 (whole_small.calls a0 a1 t105 t106 false _ A5.out) ?_; rintro w19 hb; have n0_ := Aside0.mk (Kd.R_below z13_ hb); have n1_ := Aside0.mk (below_step z10_ hb); clear HO103; clear HB; have HO103 := n0_; have HB := n1_; clear n0_ n1_; (try clear hb); (try clear hb2); (try clear hk); (try clear hi)) | ((with_reducible refine gate_dst (N := 33) rfl ?_); refine Kd.R_lit Kd.string _ 39 ?hg (N := 33) ?hd (xs := ([a0, a1] : List ByteArray)) (inner := [.string a0, .string a1]) (ok := fun _ => True) (okp := fun _ => True) ?hr ?hp (fun _ hk => hk) trivial (Below.refl _ _) (Nat.le_refl _) (by simp) ?_; (case hd => rfl); (case hg => rfl); (case hr => first | (go_simp; done) | (go_simp; rfl)); (case hp => exact (Reps.one (show Kd.M Kd.string _ _ _ a0 [.string a0] from rfl) (Reps.one (show Kd.M Kd.string _ _ _ a1 [.string a1] from rfl) (Reps.none _ _)))); intro v111 w20 ho21 hb hg_ hnew_; clear hg_ hnew_; (first | rw [← Ny110.out] at ho21 | (simp only [Int.reduceToNat] at ho21; rw [← Ny110.out] at ho21)); have n0_ := Aside0.mk (Kd.R_elder' z13_ (Kd.R_base ho21) hb); have n1_ := Aside0.mk (Kd.R_lower (Kd.R_new' ho21 (Kd.R_lt z13_)) (below_size z10_)); have n2_ := Aside0.mk (below_step z10_ hb); clear HO103; clear HB; have HO103 := n0_; have HO112 := n1_; have HB := n2_; clear n0_ n1_ n2_; clear hb ho21; obtain ⟨Ao22, co22, eo22⟩ := Kd.R_slice HO112.out; subst eo22) | ((with_reducible refine gate_callee (f := 116) rfl ?_); refine goesL_ (some 34) rfl rfl Tryz.func116 (by kernel_rfl) rfl #[.slice Ao22 y110.length co22] rfl z9_ ?_; (with_reducible refine (whole_sum.calls _ _ y110 t113 t114 _ ?side1 ?side2 A14.out (Aside0.mk (Tabs.below HT.out z4_))).mono ?_); (case side1 => repeat (first | exact (Kd.R_reads' HO112.out).2.2 | (with_reducible refine Kd.C_alloc ?_ _) | (with_reducible refine Kd.C_drewN ?_ _) | (with_reducible refine Kd.C_drew ?_))); (case side2 => exact (Kd.R_reads' HO112.out).2.1); rintro e w23 ⟨rfl, hb⟩; refine ⟨_, rfl, ?_⟩; have n0_ := Aside0.mk (Kd.R_below z13_ hb); have n1_ := Aside0.mk (Kd.R_below (by (with_reducible repeat (first | apply Kd.R_alloc | apply Kd.R_drewN | apply Kd.R_drew)); exact HO112.out) hb); have n2_ := Aside0.mk (below_step z10_ hb); clear HO103; clear HO112; clear HB; have HO103 := n0_; have HO112 := n1_; have HB := n2_; clear n0_ n1_ n2_; (try clear hb); (try clear hb2); (try clear hk); (try clear hi)))
   go_ret2
   exact ⟨z24_, z10_⟩
 ·rw [if_neg c4] at H
  have c4b0 := beq_eq_false_iff_ne.mpr c4
  have c4b1 := bne_iff_ne.mpr c4
  simp only [Option.some.injEq, Prod.mk.injEq] at H
  obtain ⟨rfl, rfl⟩ := H
  go_enter Tryz.func75, Tryz.ntmps75
  go_wp2_with (first | ((with_reducible refine gate_dst (N := 12) rfl ?_); refine Kd.R_lit Kd.string _ 39 ?hg (N := 12) ?hd (xs := ([a0, a1] : List ByteArray)) (inner := [.string a0, .string a1]) (ok := fun _ => True) (okp := fun _ => True) ?hr ?hp (fun _ hk => hk) trivial (Below.refl _ _) (Nat.le_refl _) (by simp) ?_; (case hd => rfl); (case hg => rfl); (case hr => first | (go_simp; done) | (go_simp; rfl)); (case hp => exact (Reps.one (show Kd.M Kd.string _ _ _ a0 [.string a0] from rfl) (Reps.one (show Kd.M Kd.string _ _ _ a1 [.string a1] from rfl) (Reps.none _ _)))); intro v102 w24 ho25 hb hg_ hnew_; clear hg_ hnew_; (first | rw [← Ny101.out] at ho25 | (simp only [Int.reduceToNat] at ho25; rw [← Ny101.out] at ho25)); have n0_ := Aside0.mk (Kd.R_lower ho25 (below_size z10_)); have n1_ := Aside0.mk (below_step z10_ hb); clear HB; have HO103 := n0_; have HB := n1_; clear n0_ n1_; clear hb ho25; obtain ⟨Ao26, co26, eo26⟩ := Kd.R_slice HO103.out; subst eo26) | ((with_reducible refine gate_callee (f := 101) rfl ?_); refine goesL_ (some 13) rfl rfl Tryz.func101 (by kernel_rfl) rfl #[.slice Ao26 y101.length co26] rfl z9_ ?_; (with_reducible refine (whole_all.calls _ _ y101 t104 _ ?side1 ?side2 A3.out).mono ?_); (case side1 => repeat (first | exact (Kd.R_reads' HO103.out).2.2 | (with_reducible refine Kd.C_alloc ?_ _) | (with_reducible refine Kd.C_drewN ?_ _) | (with_reducible refine Kd.C_drew ?_))); (case side2 => exact (Kd.R_reads' HO103.out).2.1); rintro e w27 ⟨rfl, hb⟩; refine ⟨_, rfl, ?_⟩; have n0_ := Aside0.mk (Kd.R_below z13_ hb); have n1_ := Aside0.mk (below_step z10_ hb); clear HO103; clear HB; have HO103 := n0_; have HB := n1_; clear n0_ n1_; (try clear hb); (try clear hb2); (try clear hk); (try clear hi)))
  go_ret2
  exact ⟨z24_, z10_⟩
def whole_Sub.f (a0 : ByteArray) (a1 : ByteArray) : Option (ByteArray × Int) := (whole_all.f (([a0, a1] : List ByteArray))).bind fun t118 => (if t118 = 0 then ((whole_opposite.f a1).bind fun t119 => ((whole_Add.f a0 t119).bind fun bt120 => (some (bt120.1, bt120.2)))) else (some ((⟨#[]⟩ : ByteArray), t118)))
set_option maxHeartbeats 8000000 in
set_option maxRecDepth 100000 in
theorem whole_Sub.calls (a0 : ByteArray) (a1 : ByteArray) (r1 : ByteArray) (r2 : Int) (w : World) (h : whole_Sub.f a0 a1 = some (r1, r2)) (HT : Aside0 (Tabs w)) :
  Calls Tryz.prog 120 #[.string a0, .string a1] w fun e w' => e = .returned (.tuple #[.string r1, .int .i64 r2]) ∧ Below w.heap.size w w' := by
 have HB := Aside0.mk (Below.refl w.heap.size w)
 have H : ((whole_all.f (([a0, a1] : List ByteArray))).bind fun t118 => (if t118 = 0 then ((whole_opposite.f a1).bind fun t119 => ((whole_Add.f a0 t119).bind fun bt120 => (some (bt120.1, bt120.2)))) else (some ((⟨#[]⟩ : ByteArray), t118)))) = some (r1, r2) := h
 clear h
 obtain ⟨y115, hy115⟩ : ∃ y_ : List ByteArray, y_ = (([a0, a1] : List ByteArray)) := ⟨_, rfl⟩
 replace H : ((whole_all.f y115).bind fun t118 => (if t118 = 0 then ((whole_opposite.f a1).bind fun t119 => ((whole_Add.f a0 t119).bind fun bt120 => (some (bt120.1, bt120.2)))) else (some ((⟨#[]⟩ : ByteArray), t118)))) = some (r1, r2) := by first | (rw [hy115]; with_reducible exact H) | (have H2_ := (Option.bind_some _ _).symm.trans H; rw [hy115]; with_reducible exact H2_) | (have H2_ := (Option.bind_some _ _).symm.trans H; with_reducible exact H2_) | with_reducible exact H | (rw [hy115]; exact H) | exact H
 have Ny115 := Aside0.mk hy115
 clear hy115
 obtain ⟨t118, A3, H⟩ := bindA H
 by_cases c4 : t118 = 0
 ·rw [if_pos c4] at H
  have c4b0 := beq_iff_eq.mpr c4
  have c4b1 := bne_eq_false_iff_eq.mpr c4
  clear c4
  obtain ⟨t119, A5, H⟩ := bindA H
  obtain ⟨⟨t120, t121⟩, A6, H⟩ := bindA H
  dsimp only at H
  simp only [Option.some.injEq, Prod.mk.injEq] at H
  obtain ⟨rfl, rfl⟩ := H
  go_enter Tryz.func120, Tryz.ntmps120
  go_wp2_with (first | ((with_reducible refine gate_dst (N := 9) rfl ?_); refine Kd.R_lit Kd.string _ 39 ?hg (N := 9) ?hd (xs := ([a0, a1] : List ByteArray)) (inner := [.string a0, .string a1]) (ok := fun _ => True) (okp := fun _ => True) ?hr ?hp (fun _ hk => hk) trivial (Below.refl _ _) (Nat.le_refl _) (by simp) ?_; (case hd => rfl); (case hg => rfl); (case hr => first | (go_simp; done) | (go_simp; rfl)); (case hp => exact (Reps.one (show Kd.M Kd.string _ _ _ a0 [.string a0] from rfl) (Reps.one (show Kd.M Kd.string _ _ _ a1 [.string a1] from rfl) (Reps.none _ _)))); intro v116 w7 ho8 hb hg_ hnew_; clear hg_ hnew_; (first | rw [← Ny115.out] at ho8 | (simp only [Int.reduceToNat] at ho8; rw [← Ny115.out] at ho8)); have n0_ := Aside0.mk (Kd.R_lower ho8 (below_size z10_)); have n1_ := Aside0.mk (below_step z10_ hb); clear HB; have HO117 := n0_; have HB := n1_; clear n0_ n1_; clear hb ho8; obtain ⟨Ao9, co9, eo9⟩ := Kd.R_slice HO117.out; subst eo9) | ((with_reducible refine gate_callee (f := 101) rfl ?_); refine goesL_ (some 10) rfl rfl Tryz.func101 (by kernel_rfl) rfl #[.slice Ao9 y115.length co9] rfl z9_ ?_; (with_reducible refine (whole_all.calls _ _ y115 t118 _ ?side1 ?side2 A3.out).mono ?_); (case side1 => repeat (first | exact (Kd.R_reads' HO117.out).2.2 | (with_reducible refine Kd.C_alloc ?_ _) | (with_reducible refine Kd.C_drewN ?_ _) | (with_reducible refine Kd.C_drew ?_))); (case side2 => exact (Kd.R_reads' HO117.out).2.1); rintro e w10 ⟨rfl, hb⟩; refine ⟨_, rfl, ?_⟩; have n0_ := Aside0.mk (Kd.R_below (by (with_reducible repeat (first | apply Kd.R_alloc | apply Kd.R_drewN | apply Kd.R_drew)); exact HO117.out) hb); have n1_ := Aside0.mk (below_step z10_ hb); clear HO117; clear HB; have HO117 := n0_; have HB := n1_; clear n0_ n1_; (try clear hb); (try clear hb2); (try clear hk); (try clear hi)) | (refine gz (f := 149) rfl (some 16) rfl Tryz.func149 (whole_opposite.calls a1 t119 _ A5.out) ?_; rintro w11 hb; have n0_ := Aside0.mk (Kd.R_below (by (with_reducible repeat (first | apply Kd.R_alloc | apply Kd.R_drewN | apply Kd.R_drew)); exact HO117.out) hb); have n1_ := Aside0.mk (below_step z10_ hb); clear HO117; clear HB; have HO117 := n0_; have HB := n1_; clear n0_ n1_; (try clear hb); (try clear hb2); (try clear hk); (try clear hi)) | (refine gz (f := 75) rfl (some 17) rfl Tryz.func75 (whole_Add.calls a0 t119 t120 t121 _ A6.out (Aside0.mk (Tabs.below HT.out z4_))) ?_; rintro w12 hb; have n0_ := Aside0.mk (Kd.R_below (by (with_reducible repeat (first | apply Kd.R_alloc | apply Kd.R_drewN | apply Kd.R_drew)); exact HO117.out) hb); have n1_ := Aside0.mk (below_step z10_ hb); clear HO117; clear HB; have HO117 := n0_; have HB := n1_; clear n0_ n1_; (try clear hb); (try clear hb2); (try clear hk); (try clear hi)))
  go_ret2
  exact ⟨z24_, z10_⟩
 ·rw [if_neg c4] at H
  have c4b0 := beq_eq_false_iff_ne.mpr c4
  have c4b1 := bne_iff_ne.mpr c4
  simp only [Option.some.injEq, Prod.mk.injEq] at H
  obtain ⟨rfl, rfl⟩ := H
  go_enter Tryz.func120, Tryz.ntmps120
  go_wp2_with (first | ((with_reducible refine gate_dst (N := 9) rfl ?_); refine Kd.R_lit Kd.string _ 39 ?hg (N := 9) ?hd (xs := ([a0, a1] : List ByteArray)) (inner := [.string a0, .string a1]) (ok := fun _ => True) (okp := fun _ => True) ?hr ?hp (fun _ hk => hk) trivial (Below.refl _ _) (Nat.le_refl _) (by simp) ?_; (case hd => rfl); (case hg => rfl); (case hr => first | (go_simp; done) | (go_simp; rfl)); (case hp => exact (Reps.one (show Kd.M Kd.string _ _ _ a0 [.string a0] from rfl) (Reps.one (show Kd.M Kd.string _ _ _ a1 [.string a1] from rfl) (Reps.none _ _)))); intro v116 w13 ho14 hb hg_ hnew_; clear hg_ hnew_; (first | rw [← Ny115.out] at ho14 | (simp only [Int.reduceToNat] at ho14; rw [← Ny115.out] at ho14)); have n0_ := Aside0.mk (Kd.R_lower ho14 (below_size z10_)); have n1_ := Aside0.mk (below_step z10_ hb); clear HB; have HO117 := n0_; have HB := n1_; clear n0_ n1_; clear hb ho14; obtain ⟨Ao15, co15, eo15⟩ := Kd.R_slice HO117.out; subst eo15) | ((with_reducible refine gate_callee (f := 101) rfl ?_); refine goesL_ (some 10) rfl rfl Tryz.func101 (by kernel_rfl) rfl #[.slice Ao15 y115.length co15] rfl z9_ ?_; (with_reducible refine (whole_all.calls _ _ y115 t118 _ ?side1 ?side2 A3.out).mono ?_); (case side1 => repeat (first | exact (Kd.R_reads' HO117.out).2.2 | (with_reducible refine Kd.C_alloc ?_ _) | (with_reducible refine Kd.C_drewN ?_ _) | (with_reducible refine Kd.C_drew ?_))); (case side2 => exact (Kd.R_reads' HO117.out).2.1); rintro e w16 ⟨rfl, hb⟩; refine ⟨_, rfl, ?_⟩; have n0_ := Aside0.mk (Kd.R_below (by (with_reducible repeat (first | apply Kd.R_alloc | apply Kd.R_drewN | apply Kd.R_drew)); exact HO117.out) hb); have n1_ := Aside0.mk (below_step z10_ hb); clear HO117; clear HB; have HO117 := n0_; have HB := n1_; clear n0_ n1_; (try clear hb); (try clear hb2); (try clear hk); (try clear hi)))
  go_ret2
  exact ⟨z24_, z10_⟩
def whole_Quo.f (a0 : ByteArray) (a1 : ByteArray) : Option (ByteArray × Int) := (whole_parted.f a0 a1).bind fun bt122 => (if bt122.2.2 = 0 then ((whole_Check.f bt122.1).bind fun t125 => (if t125 = 0 then (some (bt122.1, 0)) else (some ((⟨#[]⟩ : ByteArray), t125)))) else (some ((⟨#[]⟩ : ByteArray), bt122.2.2)))
set_option maxHeartbeats 8000000 in
set_option maxRecDepth 100000 in
theorem whole_Quo.calls (a0 : ByteArray) (a1 : ByteArray) (r1 : ByteArray) (r2 : Int) (w : World) (h : whole_Quo.f a0 a1 = some (r1, r2)) (HT : Aside0 (Tabs w)) :
  Calls Tryz.prog 61 #[.string a0, .string a1] w fun e w' => e = .returned (.tuple #[.string r1, .int .i64 r2]) ∧ Below w.heap.size w w' := by
 have HB := Aside0.mk (Below.refl w.heap.size w)
 have H : ((whole_parted.f a0 a1).bind fun bt122 => (if bt122.2.2 = 0 then ((whole_Check.f bt122.1).bind fun t125 => (if t125 = 0 then (some (bt122.1, 0)) else (some ((⟨#[]⟩ : ByteArray), t125)))) else (some ((⟨#[]⟩ : ByteArray), bt122.2.2)))) = some (r1, r2) := h
 clear h
 obtain ⟨⟨t122, t123, t124⟩, A3, H⟩ := bindA H
 dsimp only at H
 by_cases c4 : t124 = 0
 ·rw [if_pos c4] at H
  have c4b0 := beq_iff_eq.mpr c4
  have c4b1 := bne_eq_false_iff_eq.mpr c4
  clear c4
  obtain ⟨t125, A5, H⟩ := bindA H
  by_cases c6 : t125 = 0
  ·rw [if_pos c6] at H
   have c6b0 := beq_iff_eq.mpr c6
   have c6b1 := bne_eq_false_iff_eq.mpr c6
   clear c6
   simp only [Option.some.injEq, Prod.mk.injEq] at H
   obtain ⟨rfl, rfl⟩ := H
   go_enter Tryz.func61, Tryz.ntmps61
   go_wp2_with (first | (refine gy (f := 103) rfl (some 13) rfl Tryz.func103 (whole_parted.calls a0 a1 t122 t123 t124 _ A3.out (Aside0.mk (Tabs.below HT.out z4_))) z10_ ?_; clear HB; intro w7 HB) | (refine gy (f := 48) rfl (some 21) rfl Tryz.func48 (whole_Check.calls t122 t125 _ A5.out) z10_ ?_; clear HB; intro w8 HB))
   go_ret2
   exact ⟨z24_, z10_⟩
  ·rw [if_neg c6] at H
   have c6b0 := beq_eq_false_iff_ne.mpr c6
   have c6b1 := bne_iff_ne.mpr c6
   simp only [Option.some.injEq, Prod.mk.injEq] at H
   obtain ⟨rfl, rfl⟩ := H
   go_enter Tryz.func61, Tryz.ntmps61
   go_wp2_with (first | (refine gy (f := 103) rfl (some 13) rfl Tryz.func103 (whole_parted.calls a0 a1 t122 t123 t124 _ A3.out (Aside0.mk (Tabs.below HT.out z4_))) z10_ ?_; clear HB; intro w9 HB) | (refine gy (f := 48) rfl (some 21) rfl Tryz.func48 (whole_Check.calls t122 t125 _ A5.out) z10_ ?_; clear HB; intro w10 HB))
   go_ret2
   exact ⟨z24_, z10_⟩
 ·rw [if_neg c4] at H
  have c4b0 := beq_eq_false_iff_ne.mpr c4
  have c4b1 := bne_iff_ne.mpr c4
  simp only [Option.some.injEq, Prod.mk.injEq] at H
  obtain ⟨rfl, rfl⟩ := H
  go_enter Tryz.func61, Tryz.ntmps61
  go_wp2_with (first | (refine gy (f := 103) rfl (some 13) rfl Tryz.func103 (whole_parted.calls a0 a1 t122 t123 t124 _ A3.out (Aside0.mk (Tabs.below HT.out z4_))) z10_ ?_; clear HB; intro w11 HB))
  go_ret2
  exact ⟨z24_, z10_⟩
end Go.Proofs.YtkdpcgmnkifbbaaGreatDoor.L
end
section
namespace Go.Proofs.YtkdpcgmnkifbbaaGreatDoor
open Go.RowKit Go.Proofs.YtkdpcgmnkifbbaaGreatDoorW.PrintWords Go.Proofs.YtkdpcgmnkifbbaaGreatDoorW.PrintMore
theorem dnat_cons (c : UInt8) (t : List UInt8) : dnat (c :: t) = (c.toNat - 48) * 10 ^ t.length + dnat t := by
 have := dnat_app [c] t
 rw [List.singleton_append] at this
 rw [this]; simp [dnat]
def cmpv (u v : Int) : Int := if u < v then -1 else if u = v then 0 else 1
theorem cmpv_lt {u v : Int} (h : u < v) : cmpv u v = -1 := if_pos h
theorem cmpv_eq {u v : Int} (h : u = v) : cmpv u v = 0 := by unfold cmpv; rw [if_neg (by omega), if_pos h]
theorem cmpv_gt {u v : Int} (h : v < u) : cmpv u v = 1 := by unfold cmpv; rw [if_neg (by omega), if_neg (by omega)]
theorem cmpv_of {u v u' v' : Int} (h1 : u < v ↔ u' < v') (h2 : u = v ↔ u' = v') : cmpv u v = cmpv u' v' := by
 rcases Int.lt_trichotomy u v with h | h | h
 ·rw [cmpv_lt h, cmpv_lt (h1.1 h)]
 ·rw [cmpv_eq h, cmpv_eq (h2.1 h)]
 ·rw [cmpv_gt h, cmpv_gt (by have := mt h1.2 (by omega); have := mt h2.2 (by omega); omega)]
def sgn (u : Int) : Int := if u = 0 then 0 else if 0 < u then 1 else -1
theorem sgn_neg {u : Int} (h : u < 0) : sgn u = -1 := by unfold sgn; rw [if_neg (by omega), if_neg (by omega)]
theorem sgn_zero : sgn 0 = 0 := rfl
theorem sgn_pos {u : Int} (h : 0 < u) : sgn u = 1 := by unfold sgn; rw [if_neg (by omega), if_pos h]
theorem cmp_signs (u v : Int) : (if sgn u < sgn v then some ((-1 : Int), (0 : Int)) else if sgn u > sgn v then some (1, 0) else some (wrap64 (sgn u * cmpv u.natAbs v.natAbs), 0)) = some (cmpv u v, 0) := by
 have w1 : ∀ x y : Int, wrap64 (cmpv x y) = cmpv x y := fun x y => by
  rcases Int.lt_trichotomy x y with h | h | h
  ·rw [cmpv_lt h]; exact IntWalk.wrap64_in _ (by decide)
  ·rw [cmpv_eq h]; exact IntWalk.wrap64_in _ (by decide)
  ·rw [cmpv_gt h]; exact IntWalk.wrap64_in _ (by decide)
 have w2 : ∀ x y : Int, wrap64 (-1 * cmpv x y) = cmpv y x := fun x y => by
  rcases Int.lt_trichotomy x y with h | h | h
  ·rw [cmpv_lt h, cmpv_gt h]; exact IntWalk.wrap64_in _ (by decide)
  ·rw [cmpv_eq h, cmpv_eq h.symm]; exact IntWalk.wrap64_in _ (by decide)
  ·rw [cmpv_gt h, cmpv_lt h]; exact IntWalk.wrap64_in _ (by decide)
 rcases Int.lt_trichotomy u 0 with hu | hu | hu
 ·rw [sgn_neg hu]
  rcases Int.lt_trichotomy v 0 with hv | hv | hv
  ·rw [sgn_neg hv, if_neg (by decide), if_neg (by decide), w2, cmpv_of (u' := u) (v' := v) (by omega) (by omega)]
  ·rw [hv, sgn_zero, if_pos (by decide), cmpv_lt (by omega)]
  ·rw [sgn_pos hv, if_pos (by decide), cmpv_lt (by omega)]
 ·subst hu
  rw [sgn_zero]
  rcases Int.lt_trichotomy v 0 with hv | hv | hv
  ·rw [sgn_neg hv, if_neg (by decide), if_pos (by decide), cmpv_gt (by omega)]
  ·rw [hv, sgn_zero, if_neg (by decide), if_neg (by decide), Int.zero_mul, cmpv_eq rfl, IntWalk.wrap64_in 0 (by decide)]
  ·rw [sgn_pos hv, if_pos (by decide), cmpv_lt (by omega)]
 ·rw [sgn_pos hu]
  rcases Int.lt_trichotomy v 0 with hv | hv | hv
  ·rw [sgn_neg hv, if_neg (by decide), if_pos (by decide), cmpv_gt (by omega)]
  ·rw [hv, sgn_zero, if_neg (by decide), if_pos (by decide), cmpv_gt (by omega)]
  ·rw [sgn_pos hv, if_neg (by decide), if_neg (by decide), Int.one_mul, w1, cmpv_of (u' := u) (v' := v) (by omega) (by omega)]
theorem cmp_digits : ∀ (l m : List UInt8), l.length = m.length → l.all isDig = true → m.all isDig = true → Lib.compareBytes l m = cmpv (dnat l) (dnat m)
 | [], [], _, _, _ => rfl
 | [], _ :: _, h, _, _ => by simp at h
 | _ :: _, [], h, _, _ => by simp at h
 | a :: l, b :: m, h, ha, hb => by
  rw [List.all_cons, Bool.and_eq_true] at ha hb
  have hl : l.length = m.length := by simpa using h
  have ih := cmp_digits l m hl ha.2 hb.2
  have h1 := dnat_lt ha.2
  have h2 := dnat_lt hb.2
  obtain ⟨x, hx, hxa, hx2⟩ := isDig_val ha.1
  obtain ⟨y, hy, hyb, hy2⟩ := isDig_val hb.1
  rw [dnat_cons, dnat_cons, hx2, hy2, ← hl, Lib.compareBytes, ih]
  rw [← hl] at h2
  have e1 : a < b ↔ x < y := by
   rw [hxa, hyb, UInt8.lt_iff_toNat_lt, dig_of x hx, dig_of y hy]; omega
  have e2 : b < a ↔ y < x := by
   rw [hxa, hyb, UInt8.lt_iff_toNat_lt, dig_of x hx, dig_of y hy]; omega
  generalize 10 ^ l.length = p at *
  rcases Nat.lt_trichotomy x y with h3 | h3 | h3
  ·have h4 : (x + 1) * p ≤ y * p := Nat.mul_le_mul_right _ h3
   rw [Nat.add_mul, Nat.one_mul] at h4
   rw [if_pos (e1.2 h3), cmpv_lt (by omega)]
  ·subst h3
   rw [if_neg (fun h => by have := e1.1 h; omega), if_neg (fun h => by have := e2.1 h; omega)]
   exact cmpv_of (by omega) (by omega)
  ·have h4 : (y + 1) * p ≤ x * p := Nat.mul_le_mul_right _ h3
   rw [Nat.add_mul, Nat.one_mul] at h4
   rw [if_neg (fun h => by have := e1.1 h; omega), if_pos (e2.2 h3), cmpv_gt (by omega)]
theorem dd_mono {u v : Nat} (h : (Lib.decDigits u).length < (Lib.decDigits v).length) : u < v := by
 obtain ⟨k, hk⟩ : ∃ k, (Lib.decDigits v).length = k + 1 := ⟨(Lib.decDigits v).length - 1, by omega⟩
 have h0 : 0 < (Lib.decDigits u).length := List.length_pos_iff.2 (dd_ne_nil u)
 obtain ⟨j, rfl⟩ : ∃ j, k = j + 1 := ⟨k - 1, by omega⟩
 have h1 := (dd_le_iff u j).1 (by omega)
 rcases Nat.lt_or_ge v (10 ^ (j + 1)) with h2 | h2
 ·have := (dd_le_iff v j).2 h2; omega
 ·omega
theorem order_f (u v : Nat) : C.whole_order.f ⟨(Lib.decDigits u).toArray⟩ ⟨(Lib.decDigits v).toArray⟩ = some (cmpv u v) := by
 have hs : ∀ l : List UInt8, (⟨l.toArray⟩ : ByteArray).size = l.length := fun l => by rw [Lib.size_eq]
 unfold C.whole_order.f C.strings_Compare.f
 rw [hs, hs]
 by_cases h : (Lib.decDigits u).length = (Lib.decDigits v).length
 ·rw [if_pos (by omega)]
  have := cmp_digits _ _ h (dd_all u) (dd_all v)
  rw [dnat_dd, dnat_dd] at this
  simp only [Option.bind_some]
  rw [this]
 ·rw [if_neg (by omega)]
  by_cases h2 : (Lib.decDigits u).length < (Lib.decDigits v).length
  ·have := dd_mono h2
   rw [if_pos (by omega), cmpv_lt (by omega)]
  ·have := dd_mono (show (Lib.decDigits v).length < (Lib.decDigits u).length by omega)
   rw [if_neg (by omega), cmpv_gt (by omega)]
def twoi (a b : ByteArray) (r : Int) : Int × Int := if chk a ≠ 0 then (0, chk a) else if chk b ≠ 0 then (0, chk b) else (r, 0)
theorem chks_pair (a b : ByteArray) : chks [a, b] = if chk a ≠ 0 then chk a else if chk b ≠ 0 then chk b else 0 := by
 unfold chks chks chks
 by_cases h1 : chk a = 0
 ·by_cases h2 : chk b = 0 <;> simp [h1, h2]
 ·simp [h1]
theorem compare_f (a b : ByteArray) (ha : a.size ≤ 9223372036854775807) (hb : b.size ≤ 9223372036854775807) : C.whole_Compare.f 5 a b = some (twoi a b (cmpv (ival a) (ival b))) := by
 unfold C.whole_Compare.f
 rw [all_two a b ha hb, Option.bind_some]
 by_cases h1 : chk a = 0
 ·by_cases h2 : chk b = 0
  ·have hc : chks [a, b] = 0 := by rw [chks_pair]; simp [h1, h2]
   have ht : ∀ r, twoi a b r = (r, 0) := fun r => by unfold twoi; simp [h1, h2]
   have s1 := L.sign_f h1
   have s2 := L.sign_f h2
   have t1 := trimPrefix_f a
   have t2 := trimPrefix_f b
   have d1 : digs a.data.toList = Lib.decDigits (ival a).natAbs := by
    have := itx_digs (ival a); rwa [← (chk_zero h1).1] at this
   have d2 : digs b.data.toList = Lib.decDigits (ival b).natAbs := by
    have := itx_digs (ival b); rwa [← (chk_zero h2).1] at this
   rw [d1] at t1
   rw [d2] at t2
   rw [if_pos hc, s1, s2, t1, t2]
   simp only [Option.bind_some]
   rw [order_f, ht]
   simp only [Option.bind_some]
   have hk := cmp_signs (ival a) (ival b)
   unfold sgn at hk
   rw [← hk]
  ·rw [if_neg (by rw [chks_pair]; simp [h1, h2]), chks_pair]
   unfold twoi; simp [h1, h2]
 ·rw [if_neg (by rw [chks_pair]; simp [h1]), chks_pair]
  unfold twoi; simp [h1]
theorem sign_calls_f (a : ByteArray) (ha : a.size ≤ 9223372036854775807) : C.whole_Sign.f 2 a = some (if chk a = 0 then (sgn (ival a), 0) else (0, chk a)) := by
 unfold C.whole_Sign.f
 rw [check_f a ha 0, Option.bind_some]
 by_cases h : chk a = 0
 ·rw [if_pos h, if_pos h, L.sign_f h]; rfl
 ·rw [if_neg h, if_neg h]
theorem size_two {a b : ByteArray} (ha : a.size ≤ 9223372036854775807) (hb : b.size ≤ 9223372036854775807) : L.whole_all.f [a, b] = some (chks [a, b]) :=
 if_pos ⟨by intro x hx; simp at hx; rcases hx with rfl | rfl <;> assumption, by simp⟩
theorem add_f (a b : ByteArray) (ha : a.size ≤ 9223372036854775807) (hb : b.size ≤ 9223372036854775807) : L.whole_Add.f a b = some (two a b (kept (ival a + ival b))) := by
 unfold L.whole_Add.f
 rw [size_two ha hb, Option.bind_some]
 by_cases hc : chks [a, b] = 0
 ·obtain ⟨h1, h2⟩ := chks_two hc
  rw [if_pos hc, two_ok hc]
  unfold L.whole_small.f
  rw [if_pos ⟨h1, h2⟩, Option.bind_some]
  unfold smallF
  by_cases h9 : a.size ≤ 9 ∧ b.size ≤ 9
  ·have hm := short_lt h1 h9.1
   have hn := short_lt h2 h9.2
   rw [if_pos h9]
   simp only [if_true]
   rw [IntWalk.wrap64_in _ (by omega)]
   unfold L.whole_result.f
   rw [if_pos (by omega)]
   generalize kept (ival a + ival b) = r
   rfl
  ·rw [if_neg h9]
   simp only [Bool.false_eq_true, if_false]
   unfold L.whole_sum.f
   rw [if_pos ⟨by intro x hx; simp at hx; rcases hx with rfl | rfl <;> assumption, by simp⟩]
   simp only [Option.bind_some]
   have : sumv [a, b] = ival a + ival b := by simp [sumv]
   rw [this]
 ·rw [if_neg hc, two_bad hc]
theorem chk_size {a : ByteArray} (h : chk a = 0) : a.size ≤ 1025 := by
 have h1 : (digs a.data.toList).length ≤ 1024 := by
  have h2 := chk_form h
  unfold chk at h; rw [if_pos h2] at h
  rcases Nat.lt_or_ge 1024 (digs a.data.toList).length with h3 | h3
  ·rw [if_pos h3] at h; cases h
  ·exact h3
 rw [Lib.size_eq]
 unfold digs at h1
 split at h1
 ·rw [List.length_tail] at h1; omega
 ·omega
theorem fits_of_le {u v : Int} (h : u.natAbs ≤ v.natAbs) (hv : fits v) : fits u := by
 unfold fits at *
 generalize 10 ^ lim = p at *
 omega
theorem fits_neg {v : Int} : fits (-v) ↔ fits v := ⟨fun h => fits_of_le (by omega) h, fun h => fits_of_le (by omega) h⟩
theorem chk_opp {a : ByteArray} (h : chk a = 0) : chk (itx (-ival a)) = 0 := by
 rw [chk_itx, if_pos (fits_neg.2 (chk_zero h).2)]
theorem sub_f (a b : ByteArray) (ha : a.size ≤ 9223372036854775807) (hb : b.size ≤ 9223372036854775807) : L.whole_Sub.f a b = some (two a b (kept (ival a - ival b))) := by
 unfold L.whole_Sub.f
 rw [size_two ha hb, Option.bind_some]
 by_cases hc : chks [a, b] = 0
 ·obtain ⟨h1, h2⟩ := chks_two hc
  have h3 := chk_opp h2
  rw [if_pos hc, two_ok hc]
  unfold L.whole_opposite.f
  rw [if_pos ⟨h2, by have := chk_size h2; omega⟩, Option.bind_some, add_f a _ ha (by have := chk_size h3; omega)]
  have : two a (itx (-ival b)) (kept (ival a + ival (itx (-ival b)))) = kept (ival a - ival b) := by
   rw [ival_itx]; unfold two; rw [if_neg (fun h => h h1), if_neg (fun h => h h3)]; rfl
  rw [this]
  generalize kept (ival a - ival b) = r
  rfl
 ·rw [if_neg hc, two_bad hc]
def quoF (a b : ByteArray) : ByteArray × Int := two a b (if ival b = 0 then (⟨#[]⟩, 10) else kept ((ival a).fdiv (ival b)))
theorem quo_le (u v : Int) (hv : v ≠ 0) : (u.fdiv v).natAbs ≤ u.natAbs := by
 have h1 := part_plain' u.natAbs v.natAbs (decide (u < 0)) (decide (v < 0)) (by omega)
 have h2 := part_turn' u.natAbs v.natAbs (decide (u < 0)) (decide (v < 0)) (by omega)
 rw [sg_val, sg_val] at h1 h2
 by_cases h : u.natAbs % v.natAbs = 0 ∨ decide (u < 0) = decide (v < 0)
 ·rw [(h1 h).1, sg_abs]; exact Nat.div_le_self _ _
 ·have h3 := (h2 (by omega) (fun h4 => h (.inr h4))).1
  rw [h3]
  have h5 : 0 < u.natAbs % v.natAbs := by omega
  have h6 : v.natAbs ≠ 1 := by intro h7; rw [h7, Nat.mod_one] at h5; omega
  have h7 : u.natAbs ≠ 0 := by intro h7; rw [h7] at h5; simp at h5
  have h8 := Nat.div_lt_self (show 0 < u.natAbs by omega) (show 1 < v.natAbs by omega)
  generalize u.natAbs / v.natAbs = q at *
  have h4 : sg true q + sg true 1 = -(q : Int) - 1 := by unfold sg; simp; omega
  rw [h4]; omega
theorem quo_f (a b : ByteArray) (ha : a.size ≤ 9223372036854775807) (hb : b.size ≤ 9223372036854775807) : L.whole_Quo.f a b = some (quoF a b) := by
 unfold L.whole_Quo.f L.whole_parted.f quoF
 rw [if_pos ⟨ha, hb⟩, Option.bind_some]
 by_cases hc : chks [a, b] = 0
 ·obtain ⟨h1, h2⟩ := chks_two hc
  rw [two_ok hc]
  by_cases hz : ival b = 0
  ·have hp : partF a b = (⟨#[]⟩, ⟨#[]⟩, 10) := by unfold partF; rw [if_neg (fun h => h hc), if_pos hz]
   rw [hp, if_pos hz]; rfl
  ·have hp : partF a b = (itx ((ival a).fdiv (ival b)), itx ((ival a).fmod (ival b)), 0) := by unfold partF; rw [if_neg (fun h => h hc), if_neg hz]
   rw [hp, if_neg hz]
   have hq : fits ((ival a).fdiv (ival b)) := fits_of_le (quo_le _ _ hz) (chk_zero h1).2
   have hk : chk (itx ((ival a).fdiv (ival b))) = 0 := by rw [chk_itx, if_pos hq]
   simp only [if_true]
   unfold L.whole_Check.f
   rw [if_pos (by have := chk_size hk; omega), hk, kept_fits hq]; rfl
 ·have hp : partF a b = (⟨#[]⟩, ⟨#[]⟩, chks [a, b]) := by unfold partF; rw [if_pos hc]
  rw [hp, two_bad hc]
  simp only [if_neg hc]
end Go.Proofs.YtkdpcgmnkifbbaaGreatDoor
end
section
namespace Go.Proofs.YtkdpcgmnkifbbaaGreatDoor.E
open Go.RowKit Go.Proofs.YtkdpcgmnkifbbaaGreatDoorW.PrintWords Go.Proofs.YtkdpcgmnkifbbaaGreatDoorW.PrintMore
def whole_Check.f (a0 : ByteArray) : Option Int := L.whole_Check.f a0
theorem whole_Check.calls (a0 : ByteArray) (r : Int) (w : World) (h : whole_Check.f a0 = some r) :
  Calls Tryz.prog 48 #[.string a0] w fun e w' => e = .returned (.int .i64 r) ∧ Below w.heap.size w w' := L.whole_Check.calls a0 r w h
def whole_Sign.f (a0 : ByteArray) : Option (Int × Int) := if a0.size ≤ 9223372036854775807 then some (if chk a0 = 0 then (sgn (ival a0), 0) else (0, chk a0)) else none
theorem whole_Sign.calls (a0 : ByteArray) (r1 r2 : Int) (w : World) (h : whole_Sign.f a0 = some (r1, r2)) :
  Calls Tryz.prog 89 #[.string a0] w fun e w' => e = .returned (.tuple #[.int .i64 r1, .int .i64 r2]) ∧ Below w.heap.size w w' := by
 unfold whole_Sign.f at h
 split at h
 ·rename_i h1
  have h2 := sign_calls_f a0 h1
  rw [Option.some.inj h] at h2
  exact C.whole_Sign.calls 2 a0 r1 r2 w h2
 ·cases h
end Go.Proofs.YtkdpcgmnkifbbaaGreatDoor.E
end
section
namespace Go.Proofs.YtkdpcgmnkifbbaaGreatDoor.E
open Go.RowKit Go.Proofs.YtkdpcgmnkifbbaaGreatDoorW.PrintWords Go.Proofs.YtkdpcgmnkifbbaaGreatDoorW.PrintLast Go.Proofs.YtkdpcgmnkifbbaaGreatDoorW.PrintMore
attribute [local go_sem] max2_int min2_int max_two min_two max_three min_three max_four min_four
set_option linter.unusedVariables false
set_option linter.unusedSimpArgs false
def dist_sign.f (a0 : ByteArray) : Option (Int) := (whole_Sign.f a0).bind fun bt101 => (some bt101.1)
set_option maxHeartbeats 8000000 in
set_option maxRecDepth 100000 in
theorem dist_sign.calls (a0 : ByteArray) (r : Int) (w : World) (h : dist_sign.f a0 = some r) :
  Calls Tryz.prog 49 #[.string a0] w fun e w' => e = .returned (.int .i64 r) ∧ Below w.heap.size w w' := by
 have HB := Aside0.mk (Below.refl w.heap.size w)
 have H : ((whole_Sign.f a0).bind fun bt101 => (some bt101.1)) = some r := h
 clear h
 obtain ⟨⟨t101, t102⟩, A2, H⟩ := bindA H
 dsimp only at H
 obtain rfl := Option.some.inj H
 go_enter Tryz.func49, Tryz.ntmps49
 go_wp2_with (first | (refine gy (f := 89) rfl (some 7) rfl Tryz.func89 (whole_Sign.calls a0 t101 t102 _ A2.out) z10_ ?_; clear HB; intro w3 HB))
 go_ret
 exact ⟨z24_, z10_⟩
def dist_within.f (a0 : Int) : Option (Bool) := if a0 ≥ (-1048576) then (some (decide (a0 ≤ 1048576))) else (some false)
set_option maxHeartbeats 8000000 in
set_option maxRecDepth 100000 in
theorem dist_within.calls (a0 : Int) (r : Bool) (w : World) (h : dist_within.f a0 = some r) :
  Calls Tryz.prog 50 #[.int .i64 a0] w fun e w' => e = .returned (.bool r) ∧ Drawn0 w w' := by
 have H : (if a0 ≥ (-1048576) then (some (decide (a0 ≤ 1048576))) else (some false)) = some r := h
 clear h
 by_cases c2 : a0 ≥ (-1048576)
 ·rw [if_pos c2] at H
  have c2b0 : decide ((-1048576) ≤ a0) = true := decide_eq_true c2
  clear c2
  obtain rfl := Option.some.inj H
  go_enter Tryz.func50, Tryz.ntmps50
  go_wp2
  go_ret
  exact ⟨by first | rfl | (simp; done) | (simp [*]; done), by repeat (first | exact Drawn0.refl _ | apply Drawn0.step)⟩
 ·rw [if_neg c2] at H
  have c2b0 : decide ((-1048576) ≤ a0) = false := decide_eq_false c2
  clear c2
  obtain rfl := Option.some.inj H
  go_enter Tryz.func50, Tryz.ntmps50
  go_wp2
  go_ret
  exact ⟨by first | rfl | (simp; done) | (simp [*]; done), by repeat (first | exact Drawn0.refl _ | apply Drawn0.step)⟩
end Go.Proofs.YtkdpcgmnkifbbaaGreatDoor.E
end
section
namespace Go.Proofs.YtkdpcgmnkifbbaaGreatDoor
open Go.RowKit Go.Proofs.YtkdpcgmnkifbbaaGreatDoorW.PrintWords Go.Proofs.YtkdpcgmnkifbbaaGreatDoorW.PrintMore
def Sm (w : World) (s : Nat) (e : Int) : Prop := w.heap[s]? = some (.cells #[.int .i64 e] 100 (0, 0))
theorem Sm.c0 {w : World} {s : Nat} {e : Int} (h : Sm w s e) : w.cell? ⟨s, 0, none⟩ = some (.int .i64 e) := by
 unfold Sm at h; simp [World.cell?, h]
theorem Sm.fz {w : World} {s : Nat} {e : Int} (h : Sm w s e) : w.frozen? ⟨s, 0, none⟩ = false := by
 unfold Sm at h; simp [World.frozen?, h]
theorem Sm.lt {w : World} {s : Nat} {e : Int} (h : Sm w s e) : s < w.heap.size := (Array.getElem?_eq_some_iff.1 h).1
theorem Sm.set {w : World} {s : Nat} {e : Int} (h : Sm w s e) (x : Int) : Sm (w.setCell ⟨s, 0, none⟩ (.int .i64 x)) s x := by
 unfold Sm; rw [heap_setCell_same _ _ _ _ _ _ h]; rfl
theorem Sm.below {w w' : World} {s : Nat} {e : Int} (h : Sm w s e) (hb : Below w.heap.size w w') : Sm w' s e := by
 unfold Sm; rw [hb.block s h.lt]; exact h
theorem Sm.alloc {w : World} {s : Nat} {e : Int} (h : Sm w s e) (o : Obj) : Sm (w.alloc o) s e := h.below ((Below.refl _ _).alloc (Nat.le_refl _) o)
theorem Sm.drewN {w : World} {s : Nat} {e : Int} (h : Sm w s e) (n : Nat) : Sm (w.drewN n) s e := h
theorem Sm.fresh (w : World) : Sm (w.alloc (.cells #[.int .i64 0] 100)) w.heap.size 0 := by
 unfold Sm
 rw [show (w.alloc (.cells #[.int .i64 0] 100)).heap = w.heap.push (.cells #[.int .i64 0] 100) from rfl, Array.getElem?_push_size]
def dos (e : Int) (r : ByteArray × Int) : ByteArray × Int := if e ≠ 0 then (⟨#[48]⟩, e) else if r.2 ≠ 0 then (⟨#[48]⟩, r.2) else (r.1, 0)
def DoPost (w : World) (s : Nat) (r : ByteArray × Int) (e : Ending) (w' : World) : Prop := e = .returned (.string r.1) ∧ Sm w' s r.2 ∧ w.grownBy w' (some s)
theorem dos_err {e : Int} (h : e ≠ 0) (r : ByteArray × Int) : dos e r = (⟨#[48]⟩, e) := if_pos h
theorem dos_zero (r : ByteArray × Int) : dos 0 r = if r.2 ≠ 0 then (⟨#[48]⟩, r.2) else (r.1, 0) := if_neg (fun h => h rfl)
set_option maxRecDepth 100000 in
set_option maxHeartbeats 4000000 in
theorem do_Sub (s : Nat) (a b : ByteArray) (e : Int) (r : ByteArray × Int) (w : World) (hs : Sm w s e)
  (hop : Calls Tryz.prog 120 #[.string a, .string b] w (TwoPost w r)) :
  Calls Tryz.prog 113 #[.pointer (some ⟨s, 0, none⟩), .func (.func 120) #[] #[], .string a, .string b] w (DoPost w s (dos e r)) := by
 have c0 := hs.c0
 have f0 := hs.fz
 have HS := Lib.hid hs; clear hs
 have HOP := Lib.hid hop; clear hop
 by_cases he : e = 0
 ·subst he
  rw [dos_zero]
  obtain ⟨t, x⟩ := r
  by_cases hx : x = 0
  ·have hx2 : (x == 0) = true := beq_iff_eq.2 hx
   rw [if_neg (fun h => h hx), show ((t, x) : ByteArray × Int).1 = t from rfl]
   rw [← hx]
   clear hx
   go_enter Tryz.func113, Tryz.ntmps113
   go_wp2_with fail
   refine HOP.out.mono ?_
   rintro e w1 ⟨rfl, hb1⟩
   have hs1 := HS.out.below hb1
   have c1 := hs1.c0
   have f1 := hs1.fz
   have hs2 := hs1.set x
   have hg2 := gby_set (gby_below (gby_refl w (some s)) hb1) 0 (.int .i64 x)
   have HS2 := Lib.hid hs2; clear hs2 hs1
   have HG2 := Lib.hid hg2; clear hg2 hb1
   clear c0 f0
   go_wp2
   go_ret
   exact ⟨rfl, HS2.out, HG2.out⟩
  ·have hx2 : (x == 0) = false := beq_eq_false_iff_ne.2 hx
   rw [if_pos hx, show ((t, x) : ByteArray × Int).2 = x from rfl]
   clear hx
   go_enter Tryz.func113, Tryz.ntmps113
   go_wp2_with fail
   refine HOP.out.mono ?_
   rintro e w1 ⟨rfl, hb1⟩
   have hs1 := HS.out.below hb1
   have c1 := hs1.c0
   have f1 := hs1.fz
   have hs2 := hs1.set x
   have hg2 := gby_set (gby_below (gby_refl w (some s)) hb1) 0 (.int .i64 x)
   have HS2 := Lib.hid hs2; clear hs2 hs1
   have HG2 := Lib.hid hg2; clear hg2 hb1
   clear c0 f0
   go_wp2
   go_ret
   exact ⟨rfl, HS2.out, HG2.out⟩
 ·rw [dos_err he]
  have he2 : (e == 0) = false := beq_eq_false_iff_ne.2 he
  clear he HOP
  go_enter Tryz.func113, Tryz.ntmps113
  go_wp2
  go_ret
  exact ⟨rfl, HS.out, gby_refl w _⟩
set_option maxRecDepth 100000 in
set_option maxHeartbeats 4000000 in
theorem do_Mul (s : Nat) (a b : ByteArray) (e : Int) (r : ByteArray × Int) (w : World) (hs : Sm w s e)
  (hop : Calls Tryz.prog 78 #[.string a, .string b] w (TwoPost w r)) :
  Calls Tryz.prog 113 #[.pointer (some ⟨s, 0, none⟩), .func (.func 78) #[] #[], .string a, .string b] w (DoPost w s (dos e r)) := by
 have c0 := hs.c0
 have f0 := hs.fz
 have HS := Lib.hid hs; clear hs
 have HOP := Lib.hid hop; clear hop
 by_cases he : e = 0
 ·subst he
  rw [dos_zero]
  obtain ⟨t, x⟩ := r
  by_cases hx : x = 0
  ·have hx2 : (x == 0) = true := beq_iff_eq.2 hx
   rw [if_neg (fun h => h hx), show ((t, x) : ByteArray × Int).1 = t from rfl]
   rw [← hx]
   clear hx
   go_enter Tryz.func113, Tryz.ntmps113
   go_wp2_with fail
   refine HOP.out.mono ?_
   rintro e w1 ⟨rfl, hb1⟩
   have hs1 := HS.out.below hb1
   have c1 := hs1.c0
   have f1 := hs1.fz
   have hs2 := hs1.set x
   have hg2 := gby_set (gby_below (gby_refl w (some s)) hb1) 0 (.int .i64 x)
   have HS2 := Lib.hid hs2; clear hs2 hs1
   have HG2 := Lib.hid hg2; clear hg2 hb1
   clear c0 f0
   go_wp2
   go_ret
   exact ⟨rfl, HS2.out, HG2.out⟩
  ·have hx2 : (x == 0) = false := beq_eq_false_iff_ne.2 hx
   rw [if_pos hx, show ((t, x) : ByteArray × Int).2 = x from rfl]
   clear hx
   go_enter Tryz.func113, Tryz.ntmps113
   go_wp2_with fail
   refine HOP.out.mono ?_
   rintro e w1 ⟨rfl, hb1⟩
   have hs1 := HS.out.below hb1
   have c1 := hs1.c0
   have f1 := hs1.fz
   have hs2 := hs1.set x
   have hg2 := gby_set (gby_below (gby_refl w (some s)) hb1) 0 (.int .i64 x)
   have HS2 := Lib.hid hs2; clear hs2 hs1
   have HG2 := Lib.hid hg2; clear hg2 hb1
   clear c0 f0
   go_wp2
   go_ret
   exact ⟨rfl, HS2.out, HG2.out⟩
 ·rw [dos_err he]
  have he2 : (e == 0) = false := beq_eq_false_iff_ne.2 he
  clear he HOP
  go_enter Tryz.func113, Tryz.ntmps113
  go_wp2
  go_ret
  exact ⟨rfl, HS.out, gby_refl w _⟩
set_option maxRecDepth 100000 in
set_option maxHeartbeats 4000000 in
theorem do_Gcd (s : Nat) (a b : ByteArray) (e : Int) (r : ByteArray × Int) (w : World) (hs : Sm w s e)
  (hop : Calls Tryz.prog 60 #[.string a, .string b] w (TwoPost w r)) :
  Calls Tryz.prog 113 #[.pointer (some ⟨s, 0, none⟩), .func (.func 60) #[] #[], .string a, .string b] w (DoPost w s (dos e r)) := by
 have c0 := hs.c0
 have f0 := hs.fz
 have HS := Lib.hid hs; clear hs
 have HOP := Lib.hid hop; clear hop
 by_cases he : e = 0
 ·subst he
  rw [dos_zero]
  obtain ⟨t, x⟩ := r
  by_cases hx : x = 0
  ·have hx2 : (x == 0) = true := beq_iff_eq.2 hx
   rw [if_neg (fun h => h hx), show ((t, x) : ByteArray × Int).1 = t from rfl]
   rw [← hx]
   clear hx
   go_enter Tryz.func113, Tryz.ntmps113
   go_wp2_with fail
   refine HOP.out.mono ?_
   rintro e w1 ⟨rfl, hb1⟩
   have hs1 := HS.out.below hb1
   have c1 := hs1.c0
   have f1 := hs1.fz
   have hs2 := hs1.set x
   have hg2 := gby_set (gby_below (gby_refl w (some s)) hb1) 0 (.int .i64 x)
   have HS2 := Lib.hid hs2; clear hs2 hs1
   have HG2 := Lib.hid hg2; clear hg2 hb1
   clear c0 f0
   go_wp2
   go_ret
   exact ⟨rfl, HS2.out, HG2.out⟩
  ·have hx2 : (x == 0) = false := beq_eq_false_iff_ne.2 hx
   rw [if_pos hx, show ((t, x) : ByteArray × Int).2 = x from rfl]
   clear hx
   go_enter Tryz.func113, Tryz.ntmps113
   go_wp2_with fail
   refine HOP.out.mono ?_
   rintro e w1 ⟨rfl, hb1⟩
   have hs1 := HS.out.below hb1
   have c1 := hs1.c0
   have f1 := hs1.fz
   have hs2 := hs1.set x
   have hg2 := gby_set (gby_below (gby_refl w (some s)) hb1) 0 (.int .i64 x)
   have HS2 := Lib.hid hs2; clear hs2 hs1
   have HG2 := Lib.hid hg2; clear hg2 hb1
   clear c0 f0
   go_wp2
   go_ret
   exact ⟨rfl, HS2.out, HG2.out⟩
 ·rw [dos_err he]
  have he2 : (e == 0) = false := beq_eq_false_iff_ne.2 he
  clear he HOP
  go_enter Tryz.func113, Tryz.ntmps113
  go_wp2
  go_ret
  exact ⟨rfl, HS.out, gby_refl w _⟩
set_option maxRecDepth 100000 in
set_option maxHeartbeats 4000000 in
theorem do_Quo (s : Nat) (a b : ByteArray) (e : Int) (r : ByteArray × Int) (w : World) (hs : Sm w s e)
  (hop : Calls Tryz.prog 61 #[.string a, .string b] w (TwoPost w r)) :
  Calls Tryz.prog 113 #[.pointer (some ⟨s, 0, none⟩), .func (.func 61) #[] #[], .string a, .string b] w (DoPost w s (dos e r)) := by
 have c0 := hs.c0
 have f0 := hs.fz
 have HS := Lib.hid hs; clear hs
 have HOP := Lib.hid hop; clear hop
 by_cases he : e = 0
 ·subst he
  rw [dos_zero]
  obtain ⟨t, x⟩ := r
  by_cases hx : x = 0
  ·have hx2 : (x == 0) = true := beq_iff_eq.2 hx
   rw [if_neg (fun h => h hx), show ((t, x) : ByteArray × Int).1 = t from rfl]
   rw [← hx]
   clear hx
   go_enter Tryz.func113, Tryz.ntmps113
   go_wp2_with fail
   refine HOP.out.mono ?_
   rintro e w1 ⟨rfl, hb1⟩
   have hs1 := HS.out.below hb1
   have c1 := hs1.c0
   have f1 := hs1.fz
   have hs2 := hs1.set x
   have hg2 := gby_set (gby_below (gby_refl w (some s)) hb1) 0 (.int .i64 x)
   have HS2 := Lib.hid hs2; clear hs2 hs1
   have HG2 := Lib.hid hg2; clear hg2 hb1
   clear c0 f0
   go_wp2
   go_ret
   exact ⟨rfl, HS2.out, HG2.out⟩
  ·have hx2 : (x == 0) = false := beq_eq_false_iff_ne.2 hx
   rw [if_pos hx, show ((t, x) : ByteArray × Int).2 = x from rfl]
   clear hx
   go_enter Tryz.func113, Tryz.ntmps113
   go_wp2_with fail
   refine HOP.out.mono ?_
   rintro e w1 ⟨rfl, hb1⟩
   have hs1 := HS.out.below hb1
   have c1 := hs1.c0
   have f1 := hs1.fz
   have hs2 := hs1.set x
   have hg2 := gby_set (gby_below (gby_refl w (some s)) hb1) 0 (.int .i64 x)
   have HS2 := Lib.hid hs2; clear hs2 hs1
   have HG2 := Lib.hid hg2; clear hg2 hb1
   clear c0 f0
   go_wp2
   go_ret
   exact ⟨rfl, HS2.out, HG2.out⟩
 ·rw [dos_err he]
  have he2 : (e == 0) = false := beq_eq_false_iff_ne.2 he
  clear he HOP
  go_enter Tryz.func113, Tryz.ntmps113
  go_wp2
  go_ret
  exact ⟨rfl, HS.out, gby_refl w _⟩
end Go.Proofs.YtkdpcgmnkifbbaaGreatDoor
end
section
namespace Go.Proofs.YtkdpcgmnkifbbaaGreatDoor
open Go.RowKit Go.Proofs.YtkdpcgmnkifbbaaGreatDoorW.PrintWords Go.Proofs.YtkdpcgmnkifbbaaGreatDoorW.PrintMore
theorem grown_cell {w w' : World} {c s : Nat} (h : w.grownBy w' (some s)) (hne : c ≠ s) (hc : c < w.heap.size) (j : Nat) : w'.cell? ⟨c, j, none⟩ = w.cell? ⟨c, j, none⟩ := by
 have := h.block c hc (by simpa using hne)
 simp [World.cell?, this]
def mulT (t a : ByteArray) : ByteArray × Int := two t a (kept (ival t * ival a))
def mul2 (e : Int) (a b : ByteArray) : ByteArray × Int := dos (dos e (mulT ⟨#[49]⟩ a)).2 (mulT (dos e (mulT ⟨#[49]⟩ a)).1 b)
structure Up (w : World) (s : Nat) (w0 : World) : Prop where
 tabs : Tabs w0
 le : w0.heap.size ≤ s
 below : Below w0.heap.size w0 w
theorem Up.grown {w w' w0 : World} {s : Nat} (h : Up w s w0) (hg : w.grownBy w' (some s)) : Up w' s w0 := ⟨h.tabs, h.le, below_gby h.below h.le h.below.size hg⟩
theorem Up.tab {w w0 : World} {s : Nat} (h : Up w s w0) : Tabs w := h.tabs.below h.below
theorem Up.then {w w' w0 : World} {s : Nat} (h : Up w s w0) (hb : Below w.heap.size w w') : Up w' s w0 := ⟨h.tabs, h.le, below_then h.below h.below.size hb⟩
theorem dos_size {e : Int} {r : ByteArray × Int} (h : r.1.size ≤ 9223372036854775807) : (dos e r).1.size ≤ 9223372036854775807 := by
 unfold dos; split
 ·show (1 : Nat) ≤ _; decide
 ·split
  ·show (1 : Nat) ≤ _; decide
  ·exact h
theorem kept_size (v : Int) : (kept v).1.size ≤ 1025 := by
 unfold kept; split
 ·rename_i h
  exact chk_size (by rw [chk_itx, if_pos h])
 ·show (0 : Nat) ≤ _; decide
theorem two_size {a b : ByteArray} {r : ByteArray × Int} (h : r.1.size ≤ 9223372036854775807) : (two a b r).1.size ≤ 9223372036854775807 := by
 unfold two; split
 ·show (0 : Nat) ≤ _; decide
 ·split
  ·show (0 : Nat) ≤ _; decide
  ·exact h
theorem mulT_size (t a : ByteArray) : (mulT t a).1.size ≤ 9223372036854775807 := two_size (Nat.le_trans (kept_size _) (by decide))
set_option maxRecDepth 100000 in
set_option maxHeartbeats 4000000 in
theorem mul2_calls (s c k : Nat) (a b : ByteArray) (e : Int) (w w0 : World) (hs : Sm w s e) (ca : w.cell? ⟨c, 0, none⟩ = some (.string a)) (cb : w.cell? ⟨c, 1, none⟩ = some (.string b)) (hcs : c ≠ s) (hcl : c < w.heap.size)
  (ha : a.size ≤ 9223372036854775807) (hb : b.size ≤ 9223372036854775807) (hu : Up w s w0) :
  Calls Tryz.prog 71 #[.pointer (some ⟨s, 0, none⟩), .slice (some ⟨c, 0, none⟩) 2 k] w (DoPost w s (mul2 e a b)) := by
 have HS := Lib.hid hs; clear hs
 have HU := Lib.hid hu; clear hu
 have HA := Lib.hid ha; clear ha
 have HBS := Lib.hid hb; clear hb
 have HCA := Lib.hid ca; clear ca
 have HCB := Lib.hid cb; clear cb
 go_enter Tryz.func71, Tryz.ntmps71
 go_wp2
 go_loopg [5, 13] 2 (fun g v5 v13 wr => Hid (w.grownBy wr (some s)) ∧ ((g = 2 ∧ v5 = .string ⟨#[49]⟩ ∧ v13 = .int .i64 0 ∧ Hid (Sm wr s e)) ∨ (g = 1 ∧ v5 = .string (dos e (mulT ⟨#[49]⟩ a)).1 ∧ v13 = .int .i64 1 ∧ Hid (Sm wr s (dos e (mulT ⟨#[49]⟩ a)).2)) ∨ (g = 0 ∧ v5 = .string (mul2 e a b).1 ∧ v13 = .int .i64 2 ∧ Hid (Sm wr s (mul2 e a b).2))))
 case atStart => exact ⟨Lib.hid (gby_refl w _), .inl ⟨rfl, rfl, rfl, HS⟩⟩
 case round =>
  obtain ⟨HG, ⟨rfl, rfl, rfl, HSR⟩ | ⟨rfl, rfl, rfl, HSR⟩ | ⟨rfl, rfl, rfl, HSR⟩⟩ := hrel
  ·have ca := (grown_cell HG.out hcs hcl 0).trans HCA.out
   go_wp2_with fail
   refine (do_Mul s ⟨#[49]⟩ a e (mulT ⟨#[49]⟩ a) wr HSR.out (mul_calls ⟨#[49]⟩ a (by decide) HA.out wr ((HU.out.grown HG.out).tab))).mono ?_
   rintro e w1 ⟨rfl, hs1, hg1⟩
   have HS1 := Lib.hid hs1; clear hs1
   have HG1 := Lib.hid (gby_trans HG.out hg1); clear hg1
   go_wp2
   go_roundg 1
   case measure => decide
   case rel => exact ⟨HG1, .inr (.inl ⟨rfl, rfl, rfl, HS1⟩)⟩
  ·have cb := (grown_cell HG.out hcs hcl 1).trans HCB.out
   have hsz := dos_size (e := e) (mulT_size ⟨#[49]⟩ a)
   have HSZ := Lib.hid hsz; clear hsz
   go_wp2_with fail
   refine (do_Mul s _ b _ (mulT (dos e (mulT ⟨#[49]⟩ a)).1 b) wr HSR.out (mul_calls _ b HSZ.out HBS.out wr ((HU.out.grown HG.out).tab))).mono ?_
   rintro e w1 ⟨rfl, hs1, hg1⟩
   have HS1 := Lib.hid hs1; clear hs1
   have HG1 := Lib.hid (gby_trans HG.out hg1); clear hg1
   go_wp2
   go_roundg 0
   case measure => decide
   case rel => exact ⟨HG1, .inr (.inr ⟨rfl, rfl, rfl, HS1⟩)⟩
  ·go_wp2
   go_ret
   exact ⟨rfl, HSR.out, HG.out⟩
def mres (e v : Int) : ByteArray × Int := if e ≠ 0 then (⟨#[48]⟩, e) else if fits v then (itx v, 0) else (⟨#[48]⟩, 11)
theorem dos_kept (e v : Int) : dos e (kept v) = mres e v := by
 unfold dos mres kept
 by_cases he : e ≠ 0
 ·rw [if_pos he, if_pos he]
 ·rw [if_neg he, if_neg he]
  by_cases hf : fits v
  ·rw [if_pos hf, if_pos hf]; rfl
  ·rw [if_neg hf, if_neg hf]; rfl
theorem one_text : (⟨#[49]⟩ : ByteArray) = itx 1 := by unfold itx Lib.itoa; rw [if_neg (by decide), dd_small (by decide)]; rfl
theorem mul2_eq (e : Int) {a b : ByteArray} (ha : chk a = 0) (hb : chk b = 0) : mul2 e a b = mres e (ival a * ival b) := by
 have h1 : chk (⟨#[49]⟩ : ByteArray) = 0 := by rw [one_text]; exact chk_small (by decide)
 have e1 : mulT ⟨#[49]⟩ a = (a, 0) := by
  unfold mulT two
  rw [if_neg (fun h => h h1), if_neg (fun h => h ha), one_text, ival_itx, Int.one_mul, kept_fits (chk_zero ha).2, ← (chk_zero ha).1]
 unfold mul2
 rw [e1]
 by_cases he : e = 0
 ·subst he
  have e2 : dos 0 (a, 0) = (a, 0) := rfl
  rw [e2]
  have e3 : mulT a b = kept (ival a * ival b) := by
   unfold mulT two
   rw [if_neg (fun h => h ha), if_neg (fun h => h hb)]
  rw [e3, dos_kept]
 ·rw [dos_err he]
  show dos e _ = _
  rw [dos_err he]
  unfold mres; rw [if_pos he]
end Go.Proofs.YtkdpcgmnkifbbaaGreatDoor
end
section
namespace Go.Proofs.YtkdpcgmnkifbbaaGreatDoor.Q
open Go.RowKit Go.Proofs.YtkdpcgmnkifbbaaGreatDoorW.PrintWords Go.Proofs.YtkdpcgmnkifbbaaGreatDoorW.PrintMore
def stringslite_Index.f (a0 a1 : ByteArray) : Option Int := if a1.data.toList = [47] then some (Lib.indexByte a0.data.toList 47) else none
theorem stringslite_Index.calls (a0 a1 : ByteArray) (r : Int) (w : World) (h : stringslite_Index.f a0 a1 = some r) :
  Calls Tryz.prog 159 #[.string a0, .string a1] w fun e w' => e = .returned (.int .i64 r) ∧ Below w.heap.size w w' := by
 unfold stringslite_Index.f at h
 split at h
 ·rename_i h1
  cases h
  have e : a1 = ⟨#[47]⟩ := by rw [← Lib.mk_data a1, h1]
  rw [e]
  refine (Tryz.stringslite_Index_one a0 47 w).mono ?_
  rintro e w' ⟨rfl, rfl⟩
  exact ⟨rfl, Below.refl _ _⟩
 ·cases h
def whole_Check.f (a0 : ByteArray) : Option Int := L.whole_Check.f a0
theorem whole_Check.calls (a0 : ByteArray) (r : Int) (w : World) (h : whole_Check.f a0 = some r) :
  Calls Tryz.prog 48 #[.string a0] w fun e w' => e = .returned (.int .i64 r) ∧ Below w.heap.size w w' := L.whole_Check.calls a0 r w h
def whole_Compare.f (a0 a1 : ByteArray) : Option (Int × Int) := if a0.size ≤ 9223372036854775807 ∧ a1.size ≤ 9223372036854775807 then some (twoi a0 a1 (cmpv (ival a0) (ival a1))) else none
theorem whole_Compare.calls (a0 a1 : ByteArray) (r1 r2 : Int) (w : World) (h : whole_Compare.f a0 a1 = some (r1, r2)) :
  Calls Tryz.prog 69 #[.string a0, .string a1] w fun e w' => e = .returned (.tuple #[.int .i64 r1, .int .i64 r2]) ∧ Below w.heap.size w w' := by
 unfold whole_Compare.f at h
 split at h
 ·rename_i h1
  exact C.whole_Compare.calls 5 a0 a1 r1 r2 w (by rw [compare_f a0 a1 h1.1 h1.2]; exact h)
 ·cases h
def whole_Gcd.f (a0 a1 : ByteArray) : Option (ByteArray × Int) := if a0.size ≤ 9223372036854775807 ∧ a1.size ≤ 9223372036854775807 then some (two a0 a1 (itx (gcdv (ival a0) (ival a1)), 0)) else none
theorem whole_Gcd.calls (a0 a1 : ByteArray) (r1 : ByteArray) (r2 : Int) (w : World) (h : whole_Gcd.f a0 a1 = some (r1, r2)) (HT : Aside0 (Tabs w)) :
  Calls Tryz.prog 60 #[.string a0, .string a1] w fun e w' => e = .returned (.tuple #[.string r1, .int .i64 r2]) ∧ Below w.heap.size w w' := by
 unfold whole_Gcd.f at h
 split at h
 ·rename_i h1
  have h2 := gcd_calls a0 a1 h1.1 h1.2 w HT.out
  unfold TwoPost at h2
  rw [Option.some.inj h] at h2
  exact h2
 ·cases h
end Go.Proofs.YtkdpcgmnkifbbaaGreatDoor.Q
end
section
namespace Go.Proofs.YtkdpcgmnkifbbaaGreatDoor.Q
open Go.RowKit Go.Proofs.YtkdpcgmnkifbbaaGreatDoorW.PrintWords Go.Proofs.YtkdpcgmnkifbbaaGreatDoorW.PrintLast Go.Proofs.YtkdpcgmnkifbbaaGreatDoorW.PrintMore
attribute [local go_sem] max2_int min2_int max_two min_two max_three min_three max_four min_four
set_option linter.unusedVariables false
set_option linter.unusedSimpArgs false
def ratio_joined.f (a0 : ByteArray) (a1 : ByteArray) : Option (ByteArray) := if a1.toList = ([49] : List UInt8) then (some a0) else (if a0.size + 1 ≤ 9223372036854775807 then (if (a0 ++ (⟨#[47]⟩ : ByteArray)).size + a1.size ≤ 9223372036854775807 then (some ((a0 ++ (⟨#[47]⟩ : ByteArray)) ++ a1)) else (none)) else (none))
set_option maxHeartbeats 8000000 in
set_option maxRecDepth 100000 in
theorem ratio_joined.calls (a0 : ByteArray) (a1 : ByteArray) (r : ByteArray) (w : World) (h : ratio_joined.f a0 a1 = some r) :
  Calls Tryz.prog 143 #[.string a0, .string a1] w fun e w' => e = .returned (.string r) ∧ Drawn0 w w' := by
 have H : (if a1.toList = ([49] : List UInt8) then (some a0) else (if a0.size + 1 ≤ 9223372036854775807 then (if (a0 ++ (⟨#[47]⟩ : ByteArray)).size + a1.size ≤ 9223372036854775807 then (some ((a0 ++ (⟨#[47]⟩ : ByteArray)) ++ a1)) else (none)) else (none))) = some r := h
 clear h
 by_cases c3 : a1.toList = ([49] : List UInt8)
 ·rw [if_pos c3] at H
  have c3b0 := beq_iff_eq.mpr c3
  have c3b1 := bne_eq_false_iff_eq.mpr c3
  clear c3
  obtain rfl := Option.some.inj H
  go_enter Tryz.func143, Tryz.ntmps143
  go_wp2
  go_ret
  exact ⟨by first | rfl | (simp; done) | (simp [*]; done), by repeat (first | exact Drawn0.refl _ | apply Drawn0.step)⟩
 ·rw [if_neg c3] at H
  have c3b0 := beq_eq_false_iff_ne.mpr c3
  have c3b1 := bne_iff_ne.mpr c3
  by_cases c4 : a0.size + 1 ≤ 9223372036854775807
  ·rw [if_pos c4] at H
   have c4b0 := eq_true c4
   have c4b1 : decide (a0.size + 1 ≤ 9223372036854775807) = true := decide_eq_true c4
   try have c4b2 : (9223372036854775807 < a0.size + 1) = False := eq_false (Nat.not_lt.2 c4)
   by_cases c5 : (a0 ++ (⟨#[47]⟩ : ByteArray)).size + a1.size ≤ 9223372036854775807
   ·rw [if_pos c5] at H
    have c5b0 := eq_true c5
    have c5b1 : decide ((a0 ++ (⟨#[47]⟩ : ByteArray)).size + a1.size ≤ 9223372036854775807) = true := decide_eq_true c5
    try have c5b2 : (9223372036854775807 < (a0 ++ (⟨#[47]⟩ : ByteArray)).size + a1.size) = False := eq_false (Nat.not_lt.2 c5)
    obtain rfl := Option.some.inj H
    go_enter Tryz.func143, Tryz.ntmps143
    go_wp2
    go_ret
    exact ⟨by first | rfl | (simp; done) | (simp [*]; done), by repeat (first | exact Drawn0.refl _ | apply Drawn0.step)⟩
   ·rw [if_neg c5] at H
    exact absurd H (by simp)
  ·rw [if_neg c4] at H
   exact absurd H (by simp)
def stringslite_HasPrefix.f (a0 : ByteArray) (a1 : ByteArray) : Option (Bool) := if (a0.size : Int) ≥ (a1.size : Int) then (if 0 ≤ (a1.size : Int) then (if (a1.size : Int) ≤ (a0.size : Int) then (some ((a0.extract 0 ((a1.size : Int) : Int).toNat).toList == a1.toList)) else (none)) else (none)) else (some false)
set_option maxHeartbeats 8000000 in
set_option maxRecDepth 100000 in
theorem stringslite_HasPrefix.calls (a0 : ByteArray) (a1 : ByteArray) (r : Bool) (w : World) (h : stringslite_HasPrefix.f a0 a1 = some r) :
  Calls Tryz.prog 150 #[.string a0, .string a1] w fun e w' => e = .returned (.bool r) ∧ Drawn0 w w' := by
 have H : (if (a0.size : Int) ≥ (a1.size : Int) then (if 0 ≤ (a1.size : Int) then (if (a1.size : Int) ≤ (a0.size : Int) then (some ((a0.extract 0 ((a1.size : Int) : Int).toNat).toList == a1.toList)) else (none)) else (none)) else (some false)) = some r := h
 clear h
 by_cases c3 : (a0.size : Int) ≥ (a1.size : Int)
 ·rw [if_pos c3] at H
  have c3b0 : decide ((a1.size : Int) ≤ (a0.size : Int)) = true := decide_eq_true c3
  have c3b1 : decide (a1.size ≤ a0.size) = true := decide_eq_true (Int.ofNat_le.mp c3)
  clear c3
  by_cases c4 : 0 ≤ (a1.size : Int)
  ·rw [if_pos c4] at H
   have c4b0 := eq_true c4
   have c4b1 : decide (0 ≤ (a1.size : Int)) = true := decide_eq_true c4
   clear c4
   by_cases c5 : (a1.size : Int) ≤ (a0.size : Int)
   ·rw [if_pos c5] at H
    have c5b0 := eq_true c5
    have c5b1 : decide ((a1.size : Int) ≤ (a0.size : Int)) = true := decide_eq_true c5
    clear c5
    obtain rfl := Option.some.inj H
    go_enter Tryz.func150, Tryz.ntmps150
    go_wp2
    go_ret
    exact ⟨by first | rfl | (simp; done) | (simp [*]; done), by repeat (first | exact Drawn0.refl _ | apply Drawn0.step)⟩
   ·rw [if_neg c5] at H
    exact absurd H (by simp)
  ·rw [if_neg c4] at H
   exact absurd H (by simp)
 ·rw [if_neg c3] at H
  have c3b0 : decide ((a1.size : Int) ≤ (a0.size : Int)) = false := decide_eq_false c3
  have c3b1 : decide (a1.size ≤ a0.size) = false := decide_eq_false (fun h => c3 (Int.ofNat_le.mpr h))
  clear c3
  obtain rfl := Option.some.inj H
  go_enter Tryz.func150, Tryz.ntmps150
  go_wp2
  go_ret
  exact ⟨by first | rfl | (simp; done) | (simp [*]; done), by repeat (first | exact Drawn0.refl _ | apply Drawn0.step)⟩
def strings_HasPrefix.f (a0 : ByteArray) (a1 : ByteArray) : Option (Bool) := (stringslite_HasPrefix.f a0 a1).bind fun t101 => (some t101)
set_option maxHeartbeats 8000000 in
set_option maxRecDepth 100000 in
theorem strings_HasPrefix.calls (a0 : ByteArray) (a1 : ByteArray) (r : Bool) (w : World) (h : strings_HasPrefix.f a0 a1 = some r) :
  Calls Tryz.prog 142 #[.string a0, .string a1] w fun e w' => e = .returned (.bool r) ∧ Drawn0 w w' := by
 have H : ((stringslite_HasPrefix.f a0 a1).bind fun t101 => (some t101)) = some r := h
 clear h
 obtain ⟨t101, A3, H⟩ := bindA H
 obtain rfl := Option.some.inj H
 go_enter Tryz.func142, Tryz.ntmps142
 go_wp2_with (first | (refine gz (f := 150) rfl (some 7) rfl Tryz.func150 (stringslite_HasPrefix.calls a0 a1 t101 _ A3.out) ?_; rintro w' ⟨nd, rfl⟩))
 go_ret
 exact ⟨by first | rfl | (simp; done) | (simp [*]; done), by repeat (first | exact Drawn0.refl _ | apply Drawn0.step)⟩
def stringslite_Cut.f (a0 : ByteArray) (a1 : ByteArray) : Option (ByteArray × ByteArray × Bool) := (stringslite_Index.f a0 a1).bind fun t102 => (if t102 ≥ 0 then (if 0 ≤ t102 then (if t102 ≤ (a0.size : Int) then (if 0 ≤ (wrap64 (t102 + (a1.size : Int))) then (if (wrap64 (t102 + (a1.size : Int))) ≤ (a0.size : Int) then (some (a0.extract 0 (t102 : Int).toNat, a0.extract ((wrap64 (t102 + (a1.size : Int))) : Int).toNat a0.size, true)) else (none)) else (none)) else (none)) else (none)) else (some (a0, (⟨#[]⟩ : ByteArray), false)))
set_option maxHeartbeats 8000000 in
set_option maxRecDepth 100000 in
theorem stringslite_Cut.calls (a0 : ByteArray) (a1 : ByteArray) (r1 : ByteArray) (r2 : ByteArray) (r3 : Bool) (w : World) (h : stringslite_Cut.f a0 a1 = some (r1, r2, r3)) :
  Calls Tryz.prog 144 #[.string a0, .string a1] w fun e w' => e = .returned (.tuple #[.string r1, .string r2, .bool r3]) ∧ Below w.heap.size w w' := by
 have HB := Aside0.mk (Below.refl w.heap.size w)
 have H : ((stringslite_Index.f a0 a1).bind fun t102 => (if t102 ≥ 0 then (if 0 ≤ t102 then (if t102 ≤ (a0.size : Int) then (if 0 ≤ (wrap64 (t102 + (a1.size : Int))) then (if (wrap64 (t102 + (a1.size : Int))) ≤ (a0.size : Int) then (some (a0.extract 0 (t102 : Int).toNat, a0.extract ((wrap64 (t102 + (a1.size : Int))) : Int).toNat a0.size, true)) else (none)) else (none)) else (none)) else (none)) else (some (a0, (⟨#[]⟩ : ByteArray), false)))) = some (r1, r2, r3) := h
 clear h
 obtain ⟨t102, A3, H⟩ := bindA H
 by_cases c4 : t102 ≥ 0
 ·rw [if_pos c4] at H
  have c4b0 : decide (0 ≤ t102) = true := decide_eq_true c4
  clear c4
  by_cases c5 : 0 ≤ t102
  ·rw [if_pos c5] at H
   have c5b0 := eq_true c5
   have c5b1 : decide (0 ≤ t102) = true := decide_eq_true c5
   clear c5
   by_cases c6 : t102 ≤ (a0.size : Int)
   ·rw [if_pos c6] at H
    have c6b0 := eq_true c6
    have c6b1 : decide (t102 ≤ (a0.size : Int)) = true := decide_eq_true c6
    clear c6
    obtain ⟨ji7, hji7⟩ : ∃ j_ : Int, (wrap64 (t102 + (a1.size : Int))) = j_ := ⟨_, rfl⟩
    replace H : (if 0 ≤ (ji7) then (if (ji7) ≤ (a0.size : Int) then (some (a0.extract 0 (t102 : Int).toNat, a0.extract ((ji7) : Int).toNat a0.size, true)) else (none)) else (none)) = some (r1, r2, r3) := by first | (rw [hji7] at H; exact H) | (simp only [hji7] at H ⊢; exact H)
    (try rw [hji7] at A3)
    have hji7w : (IntKind.i64.wrap (t102 + (a1.size : Int))) = ji7 := (i64_w _).trans hji7
    by_cases c8 : 0 ≤ (ji7)
    ·rw [if_pos c8] at H
     have c8b0 := eq_true c8
     have c8b1 : decide (0 ≤ (ji7)) = true := decide_eq_true c8
     clear c8
     by_cases c9 : (ji7) ≤ (a0.size : Int)
     ·rw [if_pos c9] at H
      have c9b0 := eq_true c9
      have c9b1 : decide ((ji7) ≤ (a0.size : Int)) = true := decide_eq_true c9
      clear c9
      simp only [Option.some.injEq, Prod.mk.injEq] at H
      obtain ⟨rfl, rfl, rfl⟩ := H
      go_enter Tryz.func144, Tryz.ntmps144
      go_wp2_with (first | (go_at_call 159; (with_reducible refine (stringslite_Index.calls a0 a1 t102 _ A3.out).mono ?_); rintro e w10 ⟨rfl, hb⟩; replace HB := Aside0.mk (below_step z10_ hb); clear hb))
      repeat (go_quiet (first | (go_at_call 159; (with_reducible refine (stringslite_Index.calls a0 a1 t102 _ A3.out).mono ?_); rintro e w10 ⟨rfl, hb⟩; replace HB := Aside0.mk (below_step z10_ hb); clear hb)); try go_wp2_with (first | (go_at_call 159; (with_reducible refine (stringslite_Index.calls a0 a1 t102 _ A3.out).mono ?_); rintro e w10 ⟨rfl, hb⟩; replace HB := Aside0.mk (below_step z10_ hb); clear hb)))
      go_ret3
      exact ⟨by first | rfl | (simp [errW_none, errW_some] <;> rfl) | (simp only [← hji7]; first | rfl | (simp [errW_none, errW_some] <;> rfl)) | (simp [*, errW_none, errW_some] <;> rfl), z10_⟩
     ·rw [if_neg c9] at H
      exact absurd H (by simp)
    ·rw [if_neg c8] at H
     exact absurd H (by simp)
   ·rw [if_neg c6] at H
    exact absurd H (by simp)
  ·rw [if_neg c5] at H
   exact absurd H (by simp)
 ·rw [if_neg c4] at H
  have c4b0 : decide (0 ≤ t102) = false := decide_eq_false c4
  clear c4
  simp only [Option.some.injEq, Prod.mk.injEq] at H
  obtain ⟨rfl, rfl, rfl⟩ := H
  go_enter Tryz.func144, Tryz.ntmps144
  go_wp2_with (first | (go_at_call 159; (with_reducible refine (stringslite_Index.calls a0 a1 t102 _ A3.out).mono ?_); rintro e w11 ⟨rfl, hb⟩; replace HB := Aside0.mk (below_step z10_ hb); clear hb))
  repeat (go_quiet (first | (go_at_call 159; (with_reducible refine (stringslite_Index.calls a0 a1 t102 _ A3.out).mono ?_); rintro e w11 ⟨rfl, hb⟩; replace HB := Aside0.mk (below_step z10_ hb); clear hb)); try go_wp2_with (first | (go_at_call 159; (with_reducible refine (stringslite_Index.calls a0 a1 t102 _ A3.out).mono ?_); rintro e w11 ⟨rfl, hb⟩; replace HB := Aside0.mk (below_step z10_ hb); clear hb)))
  go_ret3
  exact ⟨z24_, z10_⟩
def strings_Cut.f (a0 : ByteArray) (a1 : ByteArray) : Option (ByteArray × ByteArray × Bool) := (stringslite_Cut.f a0 a1).bind fun bt103 => (some (bt103.1, bt103.2.1, bt103.2.2))
set_option maxHeartbeats 8000000 in
set_option maxRecDepth 100000 in
theorem strings_Cut.calls (a0 : ByteArray) (a1 : ByteArray) (r1 : ByteArray) (r2 : ByteArray) (r3 : Bool) (w : World) (h : strings_Cut.f a0 a1 = some (r1, r2, r3)) :
  Calls Tryz.prog 110 #[.string a0, .string a1] w fun e w' => e = .returned (.tuple #[.string r1, .string r2, .bool r3]) ∧ Below w.heap.size w w' := by
 have HB := Aside0.mk (Below.refl w.heap.size w)
 have H : ((stringslite_Cut.f a0 a1).bind fun bt103 => (some (bt103.1, bt103.2.1, bt103.2.2))) = some (r1, r2, r3) := h
 clear h
 obtain ⟨⟨t103, t104, t105⟩, A3, H⟩ := bindA H
 dsimp only at H
 simp only [Option.some.injEq, Prod.mk.injEq] at H
 obtain ⟨rfl, rfl, rfl⟩ := H
 go_enter Tryz.func110, Tryz.ntmps110
 go_wp2_with (first | (refine gy (f := 144) rfl (some 9) rfl Tryz.func144 (stringslite_Cut.calls a0 a1 t103 t104 t105 _ A3.out) z10_ ?_; clear HB; intro w4 HB))
 go_ret3
 exact ⟨z24_, z10_⟩
def ratio_cut.f (a0 : ByteArray) : Option (ByteArray × ByteArray × Bool) := (strings_Cut.f a0 (⟨#[47]⟩ : ByteArray)).bind fun bt106 => (if bt106.2.2 = true then (some (bt106.1, bt106.2.1, bt106.2.2)) else (some (bt106.1, (⟨#[49]⟩ : ByteArray), bt106.2.2)))
set_option maxHeartbeats 8000000 in
set_option maxRecDepth 100000 in
theorem ratio_cut.calls (a0 : ByteArray) (r1 : ByteArray) (r2 : ByteArray) (r3 : Bool) (w : World) (h : ratio_cut.f a0 = some (r1, r2, r3)) :
  Calls Tryz.prog 68 #[.string a0] w fun e w' => e = .returned (.tuple #[.string r1, .string r2, .bool r3]) ∧ Below w.heap.size w w' := by
 have HB := Aside0.mk (Below.refl w.heap.size w)
 have H : ((strings_Cut.f a0 (⟨#[47]⟩ : ByteArray)).bind fun bt106 => (if bt106.2.2 = true then (some (bt106.1, bt106.2.1, bt106.2.2)) else (some (bt106.1, (⟨#[49]⟩ : ByteArray), bt106.2.2)))) = some (r1, r2, r3) := h
 clear h
 obtain ⟨⟨t106, t107, t108⟩, A2, H⟩ := bindA H
 dsimp only at H
 by_cases c3 : t108 = true
 ·subst c3
  rw [if_pos rfl] at H
  simp only [Option.some.injEq, Prod.mk.injEq] at H
  obtain ⟨rfl, rfl, rfl⟩ := H
  go_enter Tryz.func68, Tryz.ntmps68
  go_wp2_with (first | (refine gy (f := 110) rfl (some 10) rfl Tryz.func110 (strings_Cut.calls a0 (⟨#[47]⟩ : ByteArray) t106 t107 true _ A2.out) z10_ ?_; clear HB; intro w4 HB))
  go_ret3
  exact ⟨z24_, z10_⟩
 ·replace c3 := Bool.eq_false_iff.mpr c3
  subst c3
  rw [if_neg (show ¬ (false = true) by decide)] at H
  simp only [Option.some.injEq, Prod.mk.injEq] at H
  obtain ⟨rfl, rfl, rfl⟩ := H
  go_enter Tryz.func68, Tryz.ntmps68
  go_wp2_with (first | (refine gy (f := 110) rfl (some 10) rfl Tryz.func110 (strings_Cut.calls a0 (⟨#[47]⟩ : ByteArray) t106 t107 false _ A2.out) z10_ ?_; clear HB; intro w5 HB))
  go_ret3
  exact ⟨z24_, z10_⟩
mutual
def ratio_Check.j0 : Nat → ByteArray → ByteArray → Bool → Int → Int → Bool → Option (Int)
 | 0, _, _, _, _, _, _ => none
 | k + 1, x3, x4, x5, x6, x7, x20 => if x20 = true then (some 3) else (if x6 = 0 then (ratio_Check.j1 k x3 x4 x5 x6 x7 (x7 != 0)) else (ratio_Check.j1 k x3 x4 x5 x6 x7 true))
def ratio_Check.j1 : Nat → ByteArray → ByteArray → Bool → Int → Int → Bool → Option (Int)
 | 0, _, _, _, _, _, _ => none
 | k + 1, x3, x4, x5, x6, x7, x27 => if x27 = true then (some (mx x6 x7)) else (if x5 = true then ((whole_Compare.f x4 (⟨#[49]⟩ : ByteArray)).bind fun bt114 => ((whole_Gcd.f x3 x4).bind fun bt116 => (if bt114.2 = 0 then (if bt116.2 = 0 then (if bt114.1 ≤ 0 then (some 3) else (if bt116.1.toList = ([49] : List UInt8) then (some 0) else (some 3))) else (some 3)) else (some 3)))) else (some 0))
end
def ratio_Check.f (k : Nat) (a0 : ByteArray) : Option (Int) := (ratio_cut.f a0).bind fun bt109 => ((whole_Check.f bt109.1).bind fun t112 => ((whole_Check.f bt109.2.1).bind fun t113 => (if t112 = 3 then (ratio_Check.j0 k bt109.1 bt109.2.1 bt109.2.2 t112 t113 true) else (ratio_Check.j0 k bt109.1 bt109.2.1 bt109.2.2 t112 t113 (t113 == 3)))))
set_option maxHeartbeats 8000000 in
set_option maxRecDepth 100000 in
theorem ratio_Check.calls (k : Nat) (a0 : ByteArray) (r : Int) (w : World) (h : ratio_Check.f k a0 = some r) (HT : Aside0 (Tabs w)) :
  Calls Tryz.prog 36 #[.string a0] w fun e w' => e = .returned (.int .i64 r) ∧ Below w.heap.size w w' := by
 have HB := Aside0.mk (Below.refl w.heap.size w)
 have H : ((ratio_cut.f a0).bind fun bt109 => ((whole_Check.f bt109.1).bind fun t112 => ((whole_Check.f bt109.2.1).bind fun t113 => (if t112 = 3 then (ratio_Check.j0 k bt109.1 bt109.2.1 bt109.2.2 t112 t113 true) else (ratio_Check.j0 k bt109.1 bt109.2.1 bt109.2.2 t112 t113 (t113 == 3)))))) = some r := h
 clear h
 obtain ⟨⟨t109, t110, t111⟩, A2, H⟩ := bindA H
 dsimp only at H
 obtain ⟨t112, A3, H⟩ := bindA H
 obtain ⟨t113, A4, H⟩ := bindA H
 have HC5 := Aside0.mk H
 clear H
 go_enter Tryz.func36, Tryz.ntmps36
 go_upto_region 3 with (first | (refine gy (f := 68) rfl (some 12) rfl Tryz.func68 (ratio_cut.calls a0 t109 t110 t111 _ A2.out) z10_ ?_; clear HB; intro w6 HB) | (refine gy (f := 48) rfl (some 17) rfl Tryz.func48 (whole_Check.calls t109 t112 _ A3.out) z10_ ?_; clear HB; intro w7 HB) | (refine gy (f := 48) rfl (some 19) rfl Tryz.func48 (whole_Check.calls t110 t113 _ A4.out) z10_ ?_; clear HB; intro w8 HB))
 (try simp only [Act.put, List.setIfInBounds_toArray, List.set_cons_zero, List.set_cons_succ])
 go_cut [20] (fun v20 wc => ∃ (kq : Nat) (x20_4 : Bool), v20 = .bool x20_4 ∧ Aside0 (ratio_Check.j0 kq t109 t110 t111 t112 t113 x20_4 = some r) ∧ Aside0 (kq ≤ k) ∧ Aside0 (Below w.heap.size w wc))
 case first =>
  have H := HC5.out
  clear HC5
  by_cases c9 : t112 = 3
  ·rw [if_pos c9] at H
   have c9b0 := beq_iff_eq.mpr c9
   have c9b1 := bne_eq_false_iff_eq.mpr c9
   clear c9
   (first | rw [c9b0] | (simp only [i64_w, i32_w]; rw [c9b0]) | skip)
   have H' := Aside0.mk H
   clear H
   go_wp2
   go_meet
   case rel => exact ⟨_, (true), z25_, H', ⟨by first | omega | exact Nat.le_refl _⟩, ⟨by repeat (first | (with_reducible first | exact HB.out | apply below_alloc | apply pw_below_drewN | apply below_drew1) | exact HB.out)⟩⟩
  ·rw [if_neg c9] at H
   have c9b0 := beq_eq_false_iff_ne.mpr c9
   have c9b1 := bne_iff_ne.mpr c9
   (first | rw [c9b0] | (simp only [i64_w, i32_w]; rw [c9b0]) | skip)
   have H' := Aside0.mk H
   clear H
   go_wp2
   go_meet
   case rel => exact ⟨_, ((t113 == 3)), z25_, H', ⟨by first | omega | exact Nat.le_refl _⟩, ⟨by repeat (first | (with_reducible first | exact HB.out | apply below_alloc | apply pw_below_drewN | apply below_drew1) | exact HB.out)⟩⟩
 case rest =>
  clear HC5
  try clear p2
  try clear c3
  try clear c4
  try clear c6
  try clear c9
  try clear c9b0
  try clear c9b1
  obtain ⟨kq, x20_4, rfl, HA, HJ4, HB⟩ := hcut
  cases kq with
  | zero => exact absurd HA.out (by simp [ratio_Check.j0])
  | succ kj4 =>
   have H := HA.out
   clear HA
   simp only [ratio_Check.j0] at H
   by_cases c10 : x20_4 = true
   ·subst c10
    rw [if_pos rfl] at H
    obtain rfl := Option.some.inj H
    go_wp2
    go_ret
    exact ⟨z24_, z10_⟩
   ·replace c10 := Bool.eq_false_iff.mpr c10
    subst c10
    rw [if_neg (show ¬ (false = true) by decide)] at H
    have HC11 := Aside0.mk H
    clear H
    go_upto_region 5 with (fail)
    go_cut [27] (fun v27 wc => ∃ (kq : Nat) (x27_10 : Bool), v27 = .bool x27_10 ∧ Aside0 (ratio_Check.j1 kq t109 t110 t111 t112 t113 x27_10 = some r) ∧ Aside0 (kq ≤ kj4) ∧ Aside0 (Below w.heap.size w wc))
    case first =>
     have H := HC11.out
     clear HC11
     by_cases c12 : t112 = 0
     ·rw [if_pos c12] at H
      have c12b0 := beq_iff_eq.mpr c12
      have c12b1 := bne_eq_false_iff_eq.mpr c12
      clear c12
      (first | rw [c12b0] | (simp only [i64_w, i32_w]; rw [c12b0]) | skip)
      have H' := Aside0.mk H
      clear H
      go_wp2
      go_meet
      case rel => exact ⟨_, ((t113 != 0)), z25_, H', ⟨by have := HJ4.out; first | omega | exact Nat.le_refl _⟩, ⟨by repeat (first | (with_reducible first | exact HB.out | apply below_alloc | apply pw_below_drewN | apply below_drew1) | exact HB.out)⟩⟩
     ·rw [if_neg c12] at H
      have c12b0 := beq_eq_false_iff_ne.mpr c12
      have c12b1 := bne_iff_ne.mpr c12
      (first | rw [c12b0] | (simp only [i64_w, i32_w]; rw [c12b0]) | skip)
      have H' := Aside0.mk H
      clear H
      go_wp2
      go_meet
      case rel => exact ⟨_, (true), z25_, H', ⟨by have := HJ4.out; first | omega | exact Nat.le_refl _⟩, ⟨by repeat (first | (with_reducible first | exact HB.out | apply below_alloc | apply pw_below_drewN | apply below_drew1) | exact HB.out)⟩⟩
    case rest =>
     clear HC11
     try clear c1
     try clear p2
     try clear c3
     try clear c4
     try clear c6
     try clear c9
     try clear c9b0
     try clear c9b1
     try clear c10
     try clear c12
     try clear c12b0
     try clear c12b1
     try clear p2
     obtain ⟨kq, x27_10, rfl, HA, HJ10, HB⟩ := hcut
     cases kq with
     | zero => exact absurd HA.out (by simp [ratio_Check.j1])
     | succ kj10 =>
      have H := HA.out
      clear HA
      simp only [ratio_Check.j1] at H
      by_cases c13 : x27_10 = true
      ·subst c13
       rw [if_pos rfl] at H
       obtain ⟨ji14, hji14⟩ : ∃ j_ : Int, (mx t112 t113) = j_ := ⟨_, rfl⟩
       replace H : (some ji14) = some r := by first | (rw [hji14] at H; exact H) | (simp only [hji14] at H ⊢; exact H)
       have hji14_ : (if t112 < t113 then t113 else t112) = ji14 := hji14
       obtain rfl := Option.some.inj H
       go_wp2
       go_ret
       exact ⟨by first | rfl | (simp [errW_none, errW_some] <;> rfl) | (simp only [← hji14]; first | rfl | (simp [errW_none, errW_some] <;> rfl)) | (simp [*, errW_none, errW_some] <;> rfl), z10_⟩
      ·replace c13 := Bool.eq_false_iff.mpr c13
       subst c13
       rw [if_neg (show ¬ (false = true) by decide)] at H
       by_cases c15 : t111 = true
       ·subst c15
        rw [if_pos rfl] at H
        obtain ⟨⟨t114, t115⟩, A16, H⟩ := bindA H
        dsimp only at H
        obtain ⟨⟨t116, t117⟩, A17, H⟩ := bindA H
        dsimp only at H
        by_cases c18 : t115 = 0
        ·rw [if_pos c18] at H
         have c18b0 := beq_iff_eq.mpr c18
         have c18b1 := bne_eq_false_iff_eq.mpr c18
         clear c18
         by_cases c19 : t117 = 0
         ·rw [if_pos c19] at H
          have c19b0 := beq_iff_eq.mpr c19
          have c19b1 := bne_eq_false_iff_eq.mpr c19
          clear c19
          by_cases c20 : t114 ≤ 0
          ·rw [if_pos c20] at H
           have c20b0 : decide (t114 ≤ 0) = true := decide_eq_true c20
           clear c20
           obtain rfl := Option.some.inj H
           go_wp2_with (first | (refine gy (f := 69) rfl (some 42) rfl Tryz.func69 (whole_Compare.calls t110 (⟨#[49]⟩ : ByteArray) t114 t115 _ A16.out) z10_ ?_; clear HB; intro w21 HB) | (refine gy (f := 60) rfl (some 48) rfl Tryz.func60 (whole_Gcd.calls t109 t110 t116 t117 _ A17.out (Aside0.mk (Tabs.below HT.out z4_))) z10_ ?_; clear HB; intro w22 HB))
           go_ret
           exact ⟨z24_, z10_⟩
          ·rw [if_neg c20] at H
           have c20b0 : decide (t114 ≤ 0) = false := decide_eq_false c20
           clear c20
           by_cases c23 : t116.toList = ([49] : List UInt8)
           ·rw [if_pos c23] at H
            have c23b0 := beq_iff_eq.mpr c23
            have c23b1 := bne_eq_false_iff_eq.mpr c23
            clear c23
            obtain rfl := Option.some.inj H
            go_wp2_with (first | (refine gy (f := 69) rfl (some 42) rfl Tryz.func69 (whole_Compare.calls t110 (⟨#[49]⟩ : ByteArray) t114 t115 _ A16.out) z10_ ?_; clear HB; intro w24 HB) | (refine gy (f := 60) rfl (some 48) rfl Tryz.func60 (whole_Gcd.calls t109 t110 t116 t117 _ A17.out (Aside0.mk (Tabs.below HT.out z4_))) z10_ ?_; clear HB; intro w25 HB))
            go_ret
            exact ⟨z24_, z10_⟩
           ·rw [if_neg c23] at H
            have c23b0 := beq_eq_false_iff_ne.mpr c23
            have c23b1 := bne_iff_ne.mpr c23
            obtain rfl := Option.some.inj H
            go_wp2_with (first | (refine gy (f := 69) rfl (some 42) rfl Tryz.func69 (whole_Compare.calls t110 (⟨#[49]⟩ : ByteArray) t114 t115 _ A16.out) z10_ ?_; clear HB; intro w26 HB) | (refine gy (f := 60) rfl (some 48) rfl Tryz.func60 (whole_Gcd.calls t109 t110 t116 t117 _ A17.out (Aside0.mk (Tabs.below HT.out z4_))) z10_ ?_; clear HB; intro w27 HB))
            go_ret
            exact ⟨z24_, z10_⟩
         ·rw [if_neg c19] at H
          have c19b0 := beq_eq_false_iff_ne.mpr c19
          have c19b1 := bne_iff_ne.mpr c19
          obtain rfl := Option.some.inj H
          go_wp2_with (first | (refine gy (f := 69) rfl (some 42) rfl Tryz.func69 (whole_Compare.calls t110 (⟨#[49]⟩ : ByteArray) t114 t115 _ A16.out) z10_ ?_; clear HB; intro w28 HB) | (refine gy (f := 60) rfl (some 48) rfl Tryz.func60 (whole_Gcd.calls t109 t110 t116 t117 _ A17.out (Aside0.mk (Tabs.below HT.out z4_))) z10_ ?_; clear HB; intro w29 HB))
          go_ret
          exact ⟨z24_, z10_⟩
        ·rw [if_neg c18] at H
         have c18b0 := beq_eq_false_iff_ne.mpr c18
         have c18b1 := bne_iff_ne.mpr c18
         obtain rfl := Option.some.inj H
         go_wp2_with (first | (refine gy (f := 69) rfl (some 42) rfl Tryz.func69 (whole_Compare.calls t110 (⟨#[49]⟩ : ByteArray) t114 t115 _ A16.out) z10_ ?_; clear HB; intro w30 HB) | (refine gy (f := 60) rfl (some 48) rfl Tryz.func60 (whole_Gcd.calls t109 t110 t116 t117 _ A17.out (Aside0.mk (Tabs.below HT.out z4_))) z10_ ?_; clear HB; intro w31 HB))
         go_ret
         exact ⟨z24_, z10_⟩
       ·replace c15 := Bool.eq_false_iff.mpr c15
        subst c15
        rw [if_neg (show ¬ (false = true) by decide)] at H
        obtain rfl := Option.some.inj H
        go_wp2
        go_ret
        exact ⟨z24_, z10_⟩
def ratio_checks.l0 : Nat → List ByteArray → Int → Int → Option (Int)
 | 0, _, _, _ => none
 | k + 1, x6, x7, x8 => if x8 < x7 then (if 0 ≤ x8 then (if x8 < (x6.length : Int) then ((ratio_Check.f k (rdOf ByteArray.empty x6 x8)).bind fun t119 => (if t119 = 0 then (ratio_checks.l0 k x6 x7 (wrap64 (x8 + 1))) else (some t119))) else (none)) else (none)) else (some 0)
def ratio_checks.f (k : Nat) (l0 : List ByteArray) : Option (Int) := ratio_checks.l0 k l0 (l0.length : Int) 0
set_option maxHeartbeats 8000000 in
set_option maxRecDepth 100000 in
theorem ratio_checks.calls (k : Nat) (A0 : Option Addr) (c0 : Nat) (l0 : List ByteArray) (r : Int) (w : World) (hr0 : Kd.C Kd.string w A0 l0.length l0) (hc0 : l0.length ≤ c0) (h : ratio_checks.f k l0 = some r) (HT : Aside0 (Tabs w)) :
  Calls Tryz.prog 70 #[.slice A0 l0.length c0] w fun e w' => e = .returned (.int .i64 r) ∧ Below w.heap.size w w' := by
 have HR0 := Aside0.mk hr0
 have HC0 := Aside0.mk hc0
 clear hr0 hc0
 have HB := Aside0.mk (Below.refl w.heap.size w)
 have H : (ratio_checks.l0 k l0 (l0.length : Int) 0) = some r := h
 clear h
 have H' := Aside0.mk H
 clear H
 go_enter Tryz.func70, Tryz.ntmps70
 go_wp2
 go_loopg [8] k (fun kq v8 w' => ∃ (x8_1 : Int), v8 = .int .i64 x8_1 ∧ Aside0 (ratio_checks.l0 kq l0 (l0.length : Int) x8_1 = some r) ∧ Aside0 (kq ≤ k) ∧ Aside0 (Below w.heap.size w w'))
 case atStart => exact ⟨(0), z25_, H', ⟨Nat.le_refl _⟩, ⟨by repeat (first | (with_reducible first | exact HB.out | apply below_alloc | apply pw_below_drewN | apply below_drew1) | exact HB.out)⟩⟩
 case round =>
  clear H'
  obtain ⟨x8_1, rfl, HA, HK1, HB⟩ := hrel
  cases gk with
  | zero => exact absurd HA.out (by simp [ratio_checks.l0])
  | succ k1 =>
   have H := HA.out
   clear HA
   simp only [ratio_checks.l0] at H
   by_cases c2 : x8_1 < (l0.length : Int)
   ·rw [if_pos c2] at H
    have c2b0 : decide (x8_1 < (l0.length : Int)) = true := decide_eq_true c2
    clear c2
    by_cases c3 : 0 ≤ x8_1
    ·rw [if_pos c3] at H
     have c3b0 : decide (0 ≤ x8_1) = true := decide_eq_true c3
     clear c3
     by_cases c4 : x8_1 < (l0.length : Int)
     ·rw [if_pos c4] at H
      have c4b0 : decide (x8_1 < (l0.length : Int)) = true := decide_eq_true c4
      clear c4
      obtain ⟨t119, A5, H⟩ := bindA H
      by_cases c6 : t119 = 0
      ·rw [if_pos c6] at H
       have c6b0 := beq_iff_eq.mpr c6
       have c6b1 := bne_eq_false_iff_eq.mpr c6
       clear c6
       have H' := Aside0.mk H
       clear H
       have p118 : 0 ≤ (x8_1 : Int) := of_decide_eq_true z26_
       have q118 : x8_1 < (l0.length : Int) := of_decide_eq_true z26_
       obtain ⟨ad118, e118, hx118_0⟩ := Kd.at_string HR0.out x8_1 p118 q118
       cases e118
       replace hx118_0 := (HB.out.cell (World.block_lt_of_cell? w _ hx118_0)).trans hx118_0
       replace p118 := eq_true p118
       replace q118 := eq_true q118
       go_wp2_with (first | (refine gy (f := 36) rfl (some 13) rfl Tryz.func36 (ratio_Check.calls k1 (rdOf ByteArray.empty l0 x8_1) t119 _ A5.out (Aside0.mk (Tabs.below HT.out z4_))) z10_ ?_; clear HB; intro w7 HB))
       go_roundg k1
       case measure => have := HK1.out; omega
       case rel => exact ⟨(wrap64 (x8_1 + 1)), z25_, H', ⟨by have := HK1.out; omega⟩, ⟨by repeat (first | (with_reducible first | exact HB.out | apply below_alloc | apply pw_below_drewN | apply below_drew1) | exact HB.out)⟩⟩
      ·rw [if_neg c6] at H
       have c6b0 := beq_eq_false_iff_ne.mpr c6
       have c6b1 := bne_iff_ne.mpr c6
       obtain rfl := Option.some.inj H
       have p118 : 0 ≤ (x8_1 : Int) := of_decide_eq_true z26_
       have q118 : x8_1 < (l0.length : Int) := of_decide_eq_true z26_
       obtain ⟨ad118, e118, hx118_0⟩ := Kd.at_string HR0.out x8_1 p118 q118
       cases e118
       replace hx118_0 := (HB.out.cell (World.block_lt_of_cell? w _ hx118_0)).trans hx118_0
       replace p118 := eq_true p118
       replace q118 := eq_true q118
       go_wp2_with (first | (refine gy (f := 36) rfl (some 13) rfl Tryz.func36 (ratio_Check.calls k1 (rdOf ByteArray.empty l0 x8_1) t119 _ A5.out (Aside0.mk (Tabs.below HT.out z4_))) z10_ ?_; clear HB; intro w8 HB))
       go_ret
       exact ⟨z24_, z10_⟩
     ·rw [if_neg c4] at H
      exact absurd H (by simp)
    ·rw [if_neg c3] at H
     exact absurd H (by simp)
   ·rw [if_neg c2] at H
    have c2b0 : decide (x8_1 < (l0.length : Int)) = false := decide_eq_false c2
    clear c2
    obtain rfl := Option.some.inj H
    go_wp2
    go_ret
    exact ⟨z24_, z10_⟩
end Go.Proofs.YtkdpcgmnkifbbaaGreatDoor.Q
end
section
namespace Go.Proofs.YtkdpcgmnkifbbaaGreatDoor
open Go.RowKit Go.Proofs.YtkdpcgmnkifbbaaGreatDoorW.PrintWords Go.Proofs.YtkdpcgmnkifbbaaGreatDoorW.PrintMore
def cutL : List UInt8 → Option (List UInt8 × List UInt8)
 | [] => none
 | b :: l => if b = 47 then some ([], l) else (cutL l).map fun p => (b :: p.1, p.2)
theorem cutL_none : ∀ {l : List UInt8}, cutL l = none → Lib.indexByte l 47 = -1 ∧ 47 ∉ l
 | [], _ => ⟨rfl, by simp⟩
 | b :: l, h => by
  unfold cutL at h
  by_cases hb : b = 47
  ·rw [if_pos hb] at h; cases h
  ·rw [if_neg hb] at h
   have ih := cutL_none (l := l) (by cases hc : cutL l with
    | none => rfl
    | some p => rw [hc] at h; cases h)
   unfold Lib.indexByte
   have hb2 : (b == 47) = false := beq_eq_false_iff_ne.2 hb
   rw [hb2, ih.1]
   exact ⟨rfl, by simp [ih.2, Ne.symm hb]⟩
theorem cutL_some : ∀ {l x y : List UInt8}, cutL l = some (x, y) → Lib.indexByte l 47 = (x.length : Int) ∧ l = x ++ 47 :: y ∧ 47 ∉ x
 | [], _, _, h => by cases h
 | b :: l, x, y, h => by
  unfold cutL at h
  by_cases hb : b = 47
  ·rw [if_pos hb] at h; cases h
   subst hb
   exact ⟨rfl, rfl, by simp⟩
  ·rw [if_neg hb] at h
   cases hc : cutL l with
   | none => rw [hc] at h; cases h
   | some p =>
    rw [hc] at h
    cases h
    have ih := cutL_some (l := l) (x := p.1) (y := p.2) hc
    unfold Lib.indexByte
    have hb2 : (b == 47) = false := beq_eq_false_iff_ne.2 hb
    have hi : ((Lib.indexByte l 47) == -1) = false := by rw [beq_eq_false_iff_ne, ih.1]; omega
    rw [hb2, hi]
    simp only [Bool.false_eq_true, if_false]
    refine ⟨by rw [ih.1]; simp, by rw [List.cons_append, ← ih.2.1], by simp [ih.2.2, Ne.symm hb]⟩
theorem cutL_of {x y : List UInt8} (h : 47 ∉ x) : cutL (x ++ 47 :: y) = some (x, y) := by
 induction x with
 | nil => simp [cutL]
 | cons a t ih =>
  rw [List.mem_cons, not_or] at h
  rw [List.cons_append, cutL, if_neg (Ne.symm h.1), ih h.2]; rfl
theorem cutL_no {x : List UInt8} (h : 47 ∉ x) : cutL x = none := by
 cases hc : cutL x with
 | none => rfl
 | some p =>
  have := (cutL_some (x := p.1) (y := p.2) hc).2.1
  rw [this] at h; simp at h
def bas (l : List UInt8) : ByteArray := ⟨l.toArray⟩
theorem bas_list (l : List UInt8) : (bas l).data.toList = l := rfl
theorem bas_size (l : List UInt8) : (bas l).size = l.length := by rw [Lib.size_eq]; rfl
def cutF (a : ByteArray) : ByteArray × ByteArray × Bool := match cutL a.data.toList with
 | none => (a, ⟨#[49]⟩, false)
 | some p => (bas p.1, bas p.2, true)
theorem cut_f (a : ByteArray) (hs : a.size ≤ 4611686018427387904) : Q.ratio_cut.f a = some (cutF a) := by
 unfold Q.ratio_cut.f Q.strings_Cut.f Q.stringslite_Cut.f Q.stringslite_Index.f cutF
 rw [if_pos rfl, Option.bind_some]
 have hz : ((⟨#[47]⟩ : ByteArray).size : Int) = 1 := rfl
 rw [hz]
 cases hc : cutL a.data.toList with
 | none =>
  rw [(cutL_none hc).1, if_neg (by decide)]; rfl
 | some p =>
  obtain ⟨x, y⟩ := p
  have h := cutL_some hc
  have hl := congrArg List.length h.2.1
  rw [← Lib.size_eq, List.length_append, List.length_cons] at hl
  rw [h.1, if_pos (by omega), if_pos (by omega), if_pos (by omega), IntWalk.wrap64_in _ (by omega), if_pos (by omega), if_pos (by omega)]
  have e1 : a.extract 0 ((x.length : Int)).toNat = bas x := by
   rw [Lib.extract_eq, h.2.1, Int.toNat_natCast]; simp [bas]
  have e2 : a.extract ((x.length : Int) + 1).toNat a.size = bas y := by
   rw [Lib.extract_eq, show ((x.length : Int) + 1).toNat = x.length + 1 by omega, h.2.1, List.take_of_length_le (by simp; omega)]
   simp [bas]
  rw [e1, e2]; rfl
theorem cutF_size (a : ByteArray) : (cutF a).1.size ≤ a.size ∧ (cutF a).2.1.size ≤ a.size + 1 := by
 unfold cutF
 cases hc : cutL a.data.toList with
 | none => exact ⟨Nat.le_refl _, by show 1 ≤ a.size + 1; omega⟩
 | some p =>
  have h := cutL_some (x := p.1) (y := p.2) hc
  have hl := congrArg List.length h.2.1
  rw [← Lib.size_eq, List.length_append, List.length_cons] at hl
  simp only [bas_size]; omega
def rchk (a : ByteArray) : Int :=
 if chk (cutF a).1 = 3 ∨ chk (cutF a).2.1 = 3 then 3
 else if chk (cutF a).1 ≠ 0 ∨ chk (cutF a).2.1 ≠ 0 then 11
 else if (cutF a).2.2 = false then 0
 else if 1 < ival (cutF a).2.1 ∧ gcdv (ival (cutF a).1) (ival (cutF a).2.1) = 1 then 0 else 3
theorem chk_eleven {a : ByteArray} (h0 : chk a ≠ 0) (h3 : chk a ≠ 3) : chk a = 11 := by
 rcases chk_cases a with h | h | h
 ·exact absurd h h0
 ·exact absurd h h3
 ·exact h
theorem itx_one_list (v : Int) : ((itx v).toList = ([49] : List UInt8)) ↔ v = 1 := by
 rw [show ([49] : List UInt8) = (itx 1).toList by rw [← one_text, Lib.toList_data]]
 constructor
 ·intro h
  refine itx_inj ?_
  rw [Lib.toList_data, Lib.toList_data] at h
  rw [← Lib.mk_data (itx v), h, Lib.mk_data]
 ·rintro rfl; rfl
theorem rcheck_f (a : ByteArray) (hs : a.size ≤ 4611686018427387904) (k : Nat) : Q.ratio_Check.f (k + 2) a = some (rchk a) := by
 unfold Q.ratio_Check.f Q.whole_Check.f L.whole_Check.f rchk
 rw [cut_f a hs, Option.bind_some]
 have hz := cutF_size a
 rw [if_pos (by omega), if_pos (by omega)]
 simp only [Option.bind_some]
 generalize hx : cutF a = x at *
 obtain ⟨n, d, wr⟩ := x
 simp only at hz ⊢
 by_cases h1 : chk n = 3
 ·rw [if_pos h1, if_pos (.inl h1), Q.ratio_Check.j0, if_pos rfl]
 ·rw [if_neg h1, Q.ratio_Check.j0]
  by_cases h2 : chk d = 3
  ·rw [if_pos (beq_iff_eq.2 h2), if_pos (.inr h2)]
  ·have hA : ¬ (chk n = 3 ∨ chk d = 3) := fun h => h.elim h1 h2
   rw [if_neg (by rw [beq_iff_eq]; exact h2), if_neg hA]
   by_cases h3 : chk n = 0
   ·rw [if_pos h3]
    rw [Q.ratio_Check.j1]
    by_cases h4 : chk d = 0
    ·have hb : ((chk d != 0) = true) = False := by rw [h4]; simp
     have hB : ¬ (chk n ≠ 0 ∨ chk d ≠ 0) := fun h => h.elim (fun h => h h3) (fun h => h h4)
     rw [if_neg (by rw [hb]; exact id), if_neg hB]
     cases wr
     ·simp
     ·simp only [if_true]
      have hone : chk (⟨#[49]⟩ : ByteArray) = 0 := by rw [one_text]; exact chk_small (by decide)
      unfold Q.whole_Compare.f Q.whole_Gcd.f
      rw [if_pos ⟨by omega, by decide⟩, if_pos ⟨by omega, by omega⟩]
      simp only [Option.bind_some]
      have e1 : twoi d ⟨#[49]⟩ (cmpv (ival d) (ival ⟨#[49]⟩)) = (cmpv (ival d) 1, 0) := by
       unfold twoi; rw [if_neg (fun h => h h4), if_neg (fun h => h hone), one_text, ival_itx]
      have e2 : two n d (itx (gcdv (ival n) (ival d)), 0) = (itx (gcdv (ival n) (ival d)), 0) := by
       unfold two; rw [if_neg (fun h => h h3), if_neg (fun h => h h4)]
      rw [e1, e2]
      simp only [if_true, Bool.true_eq_false, if_false]
      by_cases h5 : 1 < ival d
      ·rw [cmpv_gt h5, if_neg (by decide)]
       by_cases h6 : gcdv (ival n) (ival d) = 1
       ·rw [if_pos ((itx_one_list _).2 h6), if_pos ⟨h5, h6⟩]
       ·rw [if_neg (fun h => h6 ((itx_one_list _).1 h)), if_neg (fun h => h6 h.2)]
      ·rw [if_pos (by rcases Int.lt_trichotomy (ival d) 1 with h | h | h
                      ·rw [cmpv_lt h]; decide
                      ·rw [cmpv_eq h]; decide
                      ·exact absurd h h5), if_neg (fun h => h5 h.1)]
    ·have h5 := chk_eleven h4 h2
     have hb : ((chk d != 0) = true) := by rw [h5]; rfl
     rw [if_pos hb, if_pos (.inr h4), h3, h5]; rfl
   ·rw [if_neg h3, Q.ratio_Check.j1, if_pos rfl, if_pos (.inl h3), chk_eleven h3 h1]
    rcases chk_cases d with h | h | h
    ·rw [h]; rfl
    ·exact absurd h h2
    ·rw [h]; rfl
end Go.Proofs.YtkdpcgmnkifbbaaGreatDoor
end
