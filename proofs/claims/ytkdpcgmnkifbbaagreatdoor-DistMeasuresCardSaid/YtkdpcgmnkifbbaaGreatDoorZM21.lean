/- Joined by a program of this session out of its texts, with only what the last theorem needs: Dx6 Dx8 Pl. No conditions but those stated. -/
import Derived.Test.YtkdpcgmnkifbbaaGreatDoorZM07
import Derived.Test.YtkdpcgmnkifbbaaGreatDoorZM17
import Derived.Test.YtkdpcgmnkifbbaaGreatDoorZM19
import Derived.Test.YtkdpcgmnkifbbaaGreatDoorZM20
set_option linter.unusedVariables false
set_option linter.unusedSimpArgs false
namespace Go.Proofs.YtkdpcgmnkifbbaaGreatDoorW.PrintLast
end Go.Proofs.YtkdpcgmnkifbbaaGreatDoorW.PrintLast
namespace Go.Proofs.YtkdpcgmnkifbbaaGreatDoorW.PrintMore
end Go.Proofs.YtkdpcgmnkifbbaaGreatDoorW.PrintMore
namespace Go.Proofs.YtkdpcgmnkifbbaaGreatDoorW.PrintWords
end Go.Proofs.YtkdpcgmnkifbbaaGreatDoorW.PrintWords
section
namespace Go.Proofs.YtkdpcgmnkifbbaaGreatDoor.D
open Go.RowKit Go.Proofs.YtkdpcgmnkifbbaaGreatDoorW.PrintWords Go.Proofs.YtkdpcgmnkifbbaaGreatDoorW.PrintLast Go.Proofs.YtkdpcgmnkifbbaaGreatDoorW.PrintMore
attribute [local go_sem] max2_int min2_int max_two min_two max_three min_three max_four min_four
set_option linter.unusedVariables false
set_option linter.unusedSimpArgs false
def metrolablaw26_awake.f (k : Nat)  : Option (Bool) := (metrolablaw26_Sample.f).bind fun t167 => ((dist_Mean.f t167).bind fun bt170 => ((dist_Variance.f t167).bind fun bt172 => ((dist_Probability.f t167 2 3).bind fun bt174 => ((dist_Quantile.f k t167 (⟨#[52, 47, 53]⟩ : ByteArray)).bind fun bt176 => ((dist_Binomial.f k 3 1 3).bind fun bt178 => ((dist_Scale.f k t167 (-2) 10).bind fun bt182 => (if (wrap64 ((wrap64 ((wrap64 ((wrap64 ((wrap64 (bt170.2 + bt172.2)) + bt174.2)) + bt176.2)) + bt178.2)) + bt182.2)) = 0 then (if bt170.1.toList = ([57, 47, 52] : List UInt8) then (if bt172.1.toList = ([49, 57, 47, 49, 54] : List UInt8) then (if bt174.1.toList = ([49, 47, 50] : List UInt8) then (if bt176.1 = 4 then ((metrolabref26_Same.f k bt178.1 (([(⟨0, (⟨#[56]⟩ : ByteArray)⟩ : S60), (⟨1, (⟨#[49, 50]⟩ : ByteArray)⟩ : S60), (⟨2, (⟨#[54]⟩ : ByteArray)⟩ : S60), (⟨3, (⟨#[49]⟩ : ByteArray)⟩ : S60)] : List (S60)))).bind fun t189 => (if t189 = true then ((metrolabref26_Same.f k bt182.1 (([(⟨2, (⟨#[49]⟩ : ByteArray)⟩ : S60), (⟨6, (⟨#[50]⟩ : ByteArray)⟩ : S60), (⟨8, (⟨#[49]⟩ : ByteArray)⟩ : S60)] : List (S60)))).bind fun t193 => (some t193)) else (some false))) else (some false)) else (some false)) else (some false)) else (some false)) else (some false))))))))
set_option maxHeartbeats 8000000 in
set_option maxRecDepth 100000 in
theorem metrolablaw26_awake.calls (k : Nat)  (r : Bool) (hr_ : r = true) (w : World) (h : metrolablaw26_awake.f k  = some r) (HT : Aside0 (Tabs w)) :
  Calls Tryz.prog 9 #[] w fun e w' => e = .returned (.bool r) ∧ Below w.heap.size w w' := by
 subst hr_
 have hu24 := Tryz.underlying24
 have hu60 := Tryz.underlying60
 have HB := Aside0.mk (Below.refl w.heap.size w)
 have H : ((metrolablaw26_Sample.f).bind fun t167 => ((dist_Mean.f t167).bind fun bt170 => ((dist_Variance.f t167).bind fun bt172 => ((dist_Probability.f t167 2 3).bind fun bt174 => ((dist_Quantile.f k t167 (⟨#[52, 47, 53]⟩ : ByteArray)).bind fun bt176 => ((dist_Binomial.f k 3 1 3).bind fun bt178 => ((dist_Scale.f k t167 (-2) 10).bind fun bt182 => (if (wrap64 ((wrap64 ((wrap64 ((wrap64 ((wrap64 (bt170.2 + bt172.2)) + bt174.2)) + bt176.2)) + bt178.2)) + bt182.2)) = 0 then (if bt170.1.toList = ([57, 47, 52] : List UInt8) then (if bt172.1.toList = ([49, 57, 47, 49, 54] : List UInt8) then (if bt174.1.toList = ([49, 47, 50] : List UInt8) then (if bt176.1 = 4 then ((metrolabref26_Same.f k bt178.1 (([(⟨0, (⟨#[56]⟩ : ByteArray)⟩ : S60), (⟨1, (⟨#[49, 50]⟩ : ByteArray)⟩ : S60), (⟨2, (⟨#[54]⟩ : ByteArray)⟩ : S60), (⟨3, (⟨#[49]⟩ : ByteArray)⟩ : S60)] : List (S60)))).bind fun t189 => (if t189 = true then ((metrolabref26_Same.f k bt182.1 (([(⟨2, (⟨#[49]⟩ : ByteArray)⟩ : S60), (⟨6, (⟨#[50]⟩ : ByteArray)⟩ : S60), (⟨8, (⟨#[49]⟩ : ByteArray)⟩ : S60)] : List (S60)))).bind fun t193 => (some t193)) else (some false))) else (some false)) else (some false)) else (some false)) else (some false)) else (some false))))))))) = some true := h
 clear h
 obtain ⟨t167, A1, H⟩ := bindA H
 obtain ⟨⟨t170, t171⟩, A2, H⟩ := bindA H
 dsimp only at H
 obtain ⟨⟨t172, t173⟩, A3, H⟩ := bindA H
 dsimp only at H
 obtain ⟨⟨t174, t175⟩, A4, H⟩ := bindA H
 dsimp only at H
 obtain ⟨⟨t176, t177⟩, A5, H⟩ := bindA H
 dsimp only at H
 obtain ⟨⟨t178, t179⟩, A6, H⟩ := bindA H
 dsimp only at H
 obtain ⟨⟨t182, t183⟩, A7, H⟩ := bindA H
 dsimp only at H
 by_cases c8 : (wrap64 ((wrap64 ((wrap64 ((wrap64 ((wrap64 (t171 + t173)) + t175)) + t177)) + t179)) + t183)) = 0
 ·rw [if_pos c8] at H
  have c8b0 := beq_iff_eq.mpr c8
  have c8b1 := bne_eq_false_iff_eq.mpr c8
  clear c8
  by_cases c9 : t170.toList = ([57, 47, 52] : List UInt8)
  ·rw [if_pos c9] at H
   have c9b0 := beq_iff_eq.mpr c9
   have c9b1 := bne_eq_false_iff_eq.mpr c9
   clear c9
   by_cases c10 : t172.toList = ([49, 57, 47, 49, 54] : List UInt8)
   ·rw [if_pos c10] at H
    have c10b0 := beq_iff_eq.mpr c10
    have c10b1 := bne_eq_false_iff_eq.mpr c10
    clear c10
    by_cases c11 : t174.toList = ([49, 47, 50] : List UInt8)
    ·rw [if_pos c11] at H
     have c11b0 := beq_iff_eq.mpr c11
     have c11b1 := bne_eq_false_iff_eq.mpr c11
     clear c11
     by_cases c12 : t176 = 4
     ·rw [if_pos c12] at H
      have c12b0 := beq_iff_eq.mpr c12
      have c12b1 := bne_eq_false_iff_eq.mpr c12
      clear c12
      obtain ⟨y186, hy186⟩ : ∃ y_ : List (S60), y_ = (([(⟨0, (⟨#[56]⟩ : ByteArray)⟩ : S60), (⟨1, (⟨#[49, 50]⟩ : ByteArray)⟩ : S60), (⟨2, (⟨#[54]⟩ : ByteArray)⟩ : S60), (⟨3, (⟨#[49]⟩ : ByteArray)⟩ : S60)] : List (S60))) := ⟨_, rfl⟩
      replace H : ((metrolabref26_Same.f k t178 y186).bind fun t189 => (if t189 = true then ((metrolabref26_Same.f k t182 (([(⟨2, (⟨#[49]⟩ : ByteArray)⟩ : S60), (⟨6, (⟨#[50]⟩ : ByteArray)⟩ : S60), (⟨8, (⟨#[49]⟩ : ByteArray)⟩ : S60)] : List (S60)))).bind fun t193 => (some t193)) else (some false))) = some true := by first | (rw [hy186]; with_reducible exact H) | (have H2_ := (Option.bind_some _ _).symm.trans H; rw [hy186]; with_reducible exact H2_) | (have H2_ := (Option.bind_some _ _).symm.trans H; with_reducible exact H2_) | with_reducible exact H | (rw [hy186]; exact H) | exact H
      have Ny186 := Aside0.mk hy186
      clear hy186
      obtain ⟨t189, A13, H⟩ := bindA H
      by_cases c14 : t189 = true
      ·subst c14
       rw [if_pos rfl] at H
       obtain ⟨y190, hy190⟩ : ∃ y_ : List (S60), y_ = (([(⟨2, (⟨#[49]⟩ : ByteArray)⟩ : S60), (⟨6, (⟨#[50]⟩ : ByteArray)⟩ : S60), (⟨8, (⟨#[49]⟩ : ByteArray)⟩ : S60)] : List (S60))) := ⟨_, rfl⟩
       replace H : ((metrolabref26_Same.f k t182 y190).bind fun t193 => (some t193)) = some true := by first | (rw [hy190]; with_reducible exact H) | (have H2_ := (Option.bind_some _ _).symm.trans H; rw [hy190]; with_reducible exact H2_) | (have H2_ := (Option.bind_some _ _).symm.trans H; with_reducible exact H2_) | with_reducible exact H | (rw [hy190]; exact H) | exact H
       have Ny190 := Aside0.mk hy190
       clear hy190
       obtain ⟨t193, A15, H⟩ := bindA H
       obtain rfl : t193 = true := Option.some.inj H
       go_enter Tryz.func9, Tryz.ntmps9
       go_wp2_with (first | ((with_reducible refine gate_callee (f := 32) rfl ?_); refine goesL_ (some 14) rfl rfl Tryz.func32 (by kernel_rfl) rfl #[] rfl z9_ ?_; (with_reducible refine (metrolablaw26_Sample.calls  t167 _ A1.out).mono ?_); rintro e w16 ⟨v168, rfl, ho0, hb⟩; refine ⟨_, rfl, ?_⟩; have n0_ := Aside0.mk (Kd.R_lower ho0 (below_size z10_)); have n1_ := Aside0.mk (below_step z10_ hb); clear HB; have HO169 := n0_; have HB := n1_; clear n0_ n1_; (try clear hb); (try clear hb2); (try clear hk); (try clear hi); (try clear ho0); obtain ⟨Ao17, co17, eo17⟩ := Kd.R_slice HO169.out; subst eo17) | ((with_reducible refine gate_callee (f := 16) rfl ?_); refine goesL_ (some 17) rfl rfl Tryz.func16 (by kernel_rfl) rfl #[.slice Ao17 t167.length co17] rfl z9_ ?_; (with_reducible refine (dist_Mean.calls _ _ t167 t170 t171 _ ?side1 ?side2 A2.out (Aside0.mk (Tabs.below HT.out z4_))).mono ?_); (case side1 => repeat (first | exact (Kd.R_reads' HO169.out).2.2 | (with_reducible refine Kd.C_alloc ?_ _) | (with_reducible refine Kd.C_drewN ?_ _) | (with_reducible refine Kd.C_drew ?_))); (case side2 => exact (Kd.R_reads' HO169.out).2.1); rintro e w18 ⟨rfl, hb⟩; refine ⟨_, rfl, ?_⟩; have n0_ := Aside0.mk (Kd.R_below z18_ hb); have n1_ := Aside0.mk (below_step z10_ hb); clear HO169; clear HB; have HO169 := n0_; have HB := n1_; clear n0_ n1_; (try clear hb); (try clear hb2); (try clear hk); (try clear hi)) | ((with_reducible refine gate_callee (f := 18) rfl ?_); refine goesL_ (some 22) rfl rfl Tryz.func18 (by kernel_rfl) rfl #[.slice Ao17 t167.length co17] rfl z9_ ?_; (with_reducible refine (dist_Variance.calls _ _ t167 t172 t173 _ ?side1 ?side2 A3.out (Aside0.mk (Tabs.below HT.out z4_))).mono ?_); (case side1 => repeat (first | exact (Kd.R_reads' HO169.out).2.2 | (with_reducible refine Kd.C_alloc ?_ _) | (with_reducible refine Kd.C_drewN ?_ _) | (with_reducible refine Kd.C_drew ?_))); (case side2 => exact (Kd.R_reads' HO169.out).2.1); rintro e w19 ⟨rfl, hb⟩; refine ⟨_, rfl, ?_⟩; have n0_ := Aside0.mk (Kd.R_below z18_ hb); have n1_ := Aside0.mk (below_step z10_ hb); clear HO169; clear HB; have HO169 := n0_; have HB := n1_; clear n0_ n1_; (try clear hb); (try clear hb2); (try clear hk); (try clear hi)) | ((with_reducible refine gate_callee (f := 10) rfl ?_); refine goesL_ (some 28) rfl rfl Tryz.func10 (by kernel_rfl) rfl #[.slice Ao17 t167.length co17, .agg #[.int .i64 2, .int .i64 3]] rfl z9_ ?_; (with_reducible refine (dist_Probability.calls _ _ t167 2 3 t174 t175 _ ?side1 ?side2 A4.out (Aside0.mk (Tabs.below HT.out z4_))).mono ?_); (case side1 => repeat (first | exact (Kd.R_reads' HO169.out).2.2 | (with_reducible refine Kd.C_alloc ?_ _) | (with_reducible refine Kd.C_drewN ?_ _) | (with_reducible refine Kd.C_drew ?_))); (case side2 => exact (Kd.R_reads' HO169.out).2.1); rintro e w20 ⟨rfl, hb⟩; refine ⟨_, rfl, ?_⟩; have n0_ := Aside0.mk (Kd.R_below z18_ hb); have n1_ := Aside0.mk (below_step z10_ hb); clear HO169; clear HB; have HO169 := n0_; have HB := n1_; clear n0_ n1_; (try clear hb); (try clear hb2); (try clear hk); (try clear hi)) | ((with_reducible refine gate_callee (f := 12) rfl ?_); refine goesL_ (some 33) rfl rfl Tryz.func12 (by kernel_rfl) rfl #[.slice Ao17 t167.length co17, .string (⟨#[52, 47, 53]⟩ : ByteArray)] rfl z9_ ?_; (with_reducible refine (dist_Quantile.calls k _ _ t167 (⟨#[52, 47, 53]⟩ : ByteArray) t176 t177 _ ?side1 ?side2 A5.out (Aside0.mk (Tabs.below HT.out z4_))).mono ?_); (case side1 => repeat (first | exact (Kd.R_reads' HO169.out).2.2 | (with_reducible refine Kd.C_alloc ?_ _) | (with_reducible refine Kd.C_drewN ?_ _) | (with_reducible refine Kd.C_drew ?_))); (case side2 => exact (Kd.R_reads' HO169.out).2.1); rintro e w21 ⟨rfl, hb⟩; refine ⟨_, rfl, ?_⟩; have n0_ := Aside0.mk (Kd.R_below z18_ hb); have n1_ := Aside0.mk (below_step z10_ hb); clear HO169; clear HB; have HO169 := n0_; have HB := n1_; clear n0_ n1_; (try clear hb); (try clear hb2); (try clear hk); (try clear hi)) | ((with_reducible refine gate_callee (f := 24) rfl ?_); refine goesL_ (some 37) rfl rfl Tryz.func24 (by kernel_rfl) rfl #[.int .i64 3, .int .i64 1, .int .i64 3] rfl z9_ ?_; (with_reducible refine (dist_Binomial.calls k 3 1 3 t178 t179 _ A6.out (Aside0.mk (Tabs.below HT.out z4_))).mono ?_); rintro e w22 ⟨v180, rfl, ho0, hb⟩; refine ⟨_, rfl, ?_⟩; have n0_ := Aside0.mk (Kd.R_elder' z18_ (Kd.R_base ho0) hb); have n1_ := Aside0.mk (Kd.R_lower (Kd.R_new' ho0 (Kd.R_lt z18_)) (below_size z10_)); have n2_ := Aside0.mk (below_step z10_ hb); clear HO169; clear HB; have HO169 := n0_; have HO181 := n1_; have HB := n2_; clear n0_ n1_ n2_; (try clear hb); (try clear hb2); (try clear hk); (try clear hi); (try clear ho0)) | ((with_reducible refine gate_callee (f := 27) rfl ?_); refine goesL_ (some 42) rfl rfl Tryz.func27 (by kernel_rfl) rfl #[.slice Ao17 t167.length co17, .int .i64 (-2), .int .i64 10] rfl z9_ ?_; (with_reducible refine (dist_Scale.calls k _ _ t167 (-2) 10 t182 t183 _ ?side1 ?side2 A7.out).mono ?_); (case side1 => repeat (first | exact (Kd.R_reads' HO169.out).2.2 | (with_reducible refine Kd.C_alloc ?_ _) | (with_reducible refine Kd.C_drewN ?_ _) | (with_reducible refine Kd.C_drew ?_))); (case side2 => exact (Kd.R_reads' HO169.out).2.1); rintro e w23 ⟨v184, rfl, ho0, hb⟩; refine ⟨_, rfl, ?_⟩; have n0_ := Aside0.mk (Kd.R_elder' z18_ (Kd.R_base ho0) hb); have n1_ := Aside0.mk (Kd.R_elder' z19_ (Kd.R_base ho0) hb); have n2_ := Aside0.mk (Kd.R_lower (Kd.R_new' (Kd.R_new' ho0 (Kd.R_lt z18_)) (Kd.R_lt z19_)) (below_size z10_)); have n3_ := Aside0.mk (below_step z10_ hb); clear HO169; clear HO181; clear HB; have HO169 := n0_; have HO181 := n1_; have HO185 := n2_; have HB := n3_; clear n0_ n1_ n2_ n3_; (try clear hb); (try clear hb2); (try clear hk); (try clear hi); (try clear ho0)) | ((with_reducible refine gate_dst (N := 79) rfl ?_); (try (refine gate_guard (by rfl) ?_; dsimp only)); refine Kd.R_lit k60 _ 60 ?hg (N := 79) ?hd (xs := ([(⟨0, (⟨#[56]⟩ : ByteArray)⟩ : S60), (⟨1, (⟨#[49, 50]⟩ : ByteArray)⟩ : S60), (⟨2, (⟨#[54]⟩ : ByteArray)⟩ : S60), (⟨3, (⟨#[49]⟩ : ByteArray)⟩ : S60)] : List (S60))) (inner := [.int .i64 0, .string (⟨#[56]⟩ : ByteArray), .int .i64 1, .string (⟨#[49, 50]⟩ : ByteArray), .int .i64 2, .string (⟨#[54]⟩ : ByteArray), .int .i64 3, .string (⟨#[49]⟩ : ByteArray)]) (ok := fun _ => True) (okp := fun _ => True) ?hr ?hp (fun _ hk => hk) trivial (Below.refl _ _) (Nat.le_refl _) (by simp) ?_; (case hd => rfl); (case hg => rfl); (case hr => first | (go_simp; done) | (go_simp; rfl)); (case hp => exact (Reps.c2 (show Kd.M k60 _ _ _ (⟨0, (⟨#[56]⟩ : ByteArray)⟩ : S60) [.int .i64 0, .string (⟨#[56]⟩ : ByteArray)] from (k60_mkM _ _ _ (⟨0, (⟨#[56]⟩ : ByteArray)⟩ : S60) )) (Reps.c2 (show Kd.M k60 _ _ _ (⟨1, (⟨#[49, 50]⟩ : ByteArray)⟩ : S60) [.int .i64 1, .string (⟨#[49, 50]⟩ : ByteArray)] from (k60_mkM _ _ _ (⟨1, (⟨#[49, 50]⟩ : ByteArray)⟩ : S60) )) (Reps.c2 (show Kd.M k60 _ _ _ (⟨2, (⟨#[54]⟩ : ByteArray)⟩ : S60) [.int .i64 2, .string (⟨#[54]⟩ : ByteArray)] from (k60_mkM _ _ _ (⟨2, (⟨#[54]⟩ : ByteArray)⟩ : S60) )) (Reps.c2 (show Kd.M k60 _ _ _ (⟨3, (⟨#[49]⟩ : ByteArray)⟩ : S60) [.int .i64 3, .string (⟨#[49]⟩ : ByteArray)] from (k60_mkM _ _ _ (⟨3, (⟨#[49]⟩ : ByteArray)⟩ : S60) )) (Reps.none _ _)))))); intro v187 w24 ho25 hb hg_ hnew_; clear hg_ hnew_; (first | rw [← Ny186.out] at ho25 | (simp only [Int.reduceToNat] at ho25; rw [← Ny186.out] at ho25)); have n0_ := Aside0.mk (Kd.R_elder' z18_ (Kd.R_base ho25) hb); have n1_ := Aside0.mk (Kd.R_elder' z19_ (Kd.R_base ho25) hb); have n2_ := Aside0.mk (Kd.R_elder' (by (with_reducible repeat (first | apply Kd.R_alloc | apply Kd.R_drewN | apply Kd.R_drew)); exact HO185.out) (Kd.R_base ho25) hb); have n3_ := Aside0.mk (Kd.R_lower (Kd.R_new' (Kd.R_new' (Kd.R_new' ho25 (Kd.R_lt z18_)) (Kd.R_lt z19_)) (Kd.R_lt (by (with_reducible repeat (first | apply Kd.R_alloc | apply Kd.R_drewN | apply Kd.R_drew)); exact HO185.out))) (below_size z10_)); have n4_ := Aside0.mk (below_step z10_ hb); clear HO169; clear HO181; clear HO185; clear HB; have HO169 := n0_; have HO181 := n1_; have HO185 := n2_; have HO188 := n3_; have HB := n4_; clear n0_ n1_ n2_ n3_ n4_; clear hb ho25; obtain ⟨Ao26, co26, eo26⟩ := Kd.R_slice HO181.out; subst eo26; obtain ⟨Ao27, co27, eo27⟩ := Kd.R_slice HO188.out; subst eo27) | (go_at_call 26; (with_reducible refine (metrolabref26_Same.calls k _ _ t178 _ _ y186 true _ ?side1 ?side2 ?side3 ?side4 A13.out).mono ?_); (case side1 => repeat (first | exact (Kd.R_reads' HO181.out).2.2 | (with_reducible refine Kd.C_alloc ?_ _) | (with_reducible refine Kd.C_drewN ?_ _) | (with_reducible refine Kd.C_drew ?_))); (case side2 => exact (Kd.R_reads' HO181.out).2.1); (case side3 => repeat (first | exact (Kd.R_reads' HO188.out).2.2 | (with_reducible refine Kd.C_alloc ?_ _) | (with_reducible refine Kd.C_drewN ?_ _) | (with_reducible refine Kd.C_drew ?_))); (case side4 => exact (Kd.R_reads' HO188.out).2.1); rintro e w' ⟨rfl, ⟨nd, rfl⟩⟩) | ((with_reducible refine gate_dst (N := 87) rfl ?_); (try (refine gate_guard (by rfl) ?_; dsimp only)); refine Kd.R_lit k60 _ 60 ?hg (N := 87) ?hd (xs := ([(⟨2, (⟨#[49]⟩ : ByteArray)⟩ : S60), (⟨6, (⟨#[50]⟩ : ByteArray)⟩ : S60), (⟨8, (⟨#[49]⟩ : ByteArray)⟩ : S60)] : List (S60))) (inner := [.int .i64 2, .string (⟨#[49]⟩ : ByteArray), .int .i64 6, .string (⟨#[50]⟩ : ByteArray), .int .i64 8, .string (⟨#[49]⟩ : ByteArray)]) (ok := fun _ => True) (okp := fun _ => True) ?hr ?hp (fun _ hk => hk) trivial (Below.refl _ _) (Nat.le_refl _) (by simp) ?_; (case hd => rfl); (case hg => rfl); (case hr => first | (go_simp; done) | (go_simp; rfl)); (case hp => exact (Reps.c2 (show Kd.M k60 _ _ _ (⟨2, (⟨#[49]⟩ : ByteArray)⟩ : S60) [.int .i64 2, .string (⟨#[49]⟩ : ByteArray)] from (k60_mkM _ _ _ (⟨2, (⟨#[49]⟩ : ByteArray)⟩ : S60) )) (Reps.c2 (show Kd.M k60 _ _ _ (⟨6, (⟨#[50]⟩ : ByteArray)⟩ : S60) [.int .i64 6, .string (⟨#[50]⟩ : ByteArray)] from (k60_mkM _ _ _ (⟨6, (⟨#[50]⟩ : ByteArray)⟩ : S60) )) (Reps.c2 (show Kd.M k60 _ _ _ (⟨8, (⟨#[49]⟩ : ByteArray)⟩ : S60) [.int .i64 8, .string (⟨#[49]⟩ : ByteArray)] from (k60_mkM _ _ _ (⟨8, (⟨#[49]⟩ : ByteArray)⟩ : S60) )) (Reps.none _ _))))); intro v191 w28 ho29 hb hg_ hnew_; clear hg_ hnew_; (first | rw [← Ny190.out] at ho29 | (simp only [Int.reduceToNat] at ho29; rw [← Ny190.out] at ho29)); have n0_ := Aside0.mk (Kd.R_elder' z18_ (Kd.R_base ho29) hb); have n1_ := Aside0.mk (Kd.R_elder' z19_ (Kd.R_base ho29) hb); have n2_ := Aside0.mk (Kd.R_elder' (by (with_reducible repeat (first | apply Kd.R_alloc | apply Kd.R_drewN | apply Kd.R_drew)); exact HO185.out) (Kd.R_base ho29) hb); have n3_ := Aside0.mk (Kd.R_elder' (by (with_reducible repeat (first | apply Kd.R_alloc | apply Kd.R_drewN | apply Kd.R_drew)); exact HO188.out) (Kd.R_base ho29) hb); have n4_ := Aside0.mk (Kd.R_lower (Kd.R_new' (Kd.R_new' (Kd.R_new' (Kd.R_new' ho29 (Kd.R_lt z18_)) (Kd.R_lt z19_)) (Kd.R_lt (by (with_reducible repeat (first | apply Kd.R_alloc | apply Kd.R_drewN | apply Kd.R_drew)); exact HO185.out))) (Kd.R_lt (by (with_reducible repeat (first | apply Kd.R_alloc | apply Kd.R_drewN | apply Kd.R_drew)); exact HO188.out))) (below_size z10_)); have n5_ := Aside0.mk (below_step z10_ hb); clear HO169; clear HO181; clear HO185; clear HO188; clear HB; have HO169 := n0_; have HO181 := n1_; have HO185 := n2_; have HO188 := n3_; have HO192 := n4_; have HB := n5_; clear n0_ n1_ n2_ n3_ n4_ n5_; clear hb ho29; obtain ⟨Ao30, co30, eo30⟩ := Kd.R_slice HO185.out; subst eo30; obtain ⟨Ao31, co31, eo31⟩ := Kd.R_slice HO192.out; subst eo31) | (go_at_call 26; (with_reducible refine (metrolabref26_Same.calls k _ _ t182 _ _ y190 true _ ?side1 ?side2 ?side3 ?side4 A15.out).mono ?_); (case side1 => repeat (first | exact (Kd.R_reads' HO185.out).2.2 | (with_reducible refine Kd.C_alloc ?_ _) | (with_reducible refine Kd.C_drewN ?_ _) | (with_reducible refine Kd.C_drew ?_))); (case side2 => exact (Kd.R_reads' HO185.out).2.1); (case side3 => repeat (first | exact (Kd.R_reads' HO192.out).2.2 | (with_reducible refine Kd.C_alloc ?_ _) | (with_reducible refine Kd.C_drewN ?_ _) | (with_reducible refine Kd.C_drew ?_))); (case side4 => exact (Kd.R_reads' HO192.out).2.1); rintro e w' ⟨rfl, ⟨nd, rfl⟩⟩))
       go_ret
       exact ⟨z24_, z10_⟩
      ·replace c14 := Bool.eq_false_iff.mpr c14
       subst c14
       rw [if_neg (show ¬ (false = true) by decide)] at H
       cases H
     ·rw [if_neg c12] at H
      have c12b0 := beq_eq_false_iff_ne.mpr c12
      have c12b1 := bne_iff_ne.mpr c12
      cases H
    ·rw [if_neg c11] at H
     have c11b0 := beq_eq_false_iff_ne.mpr c11
     have c11b1 := bne_iff_ne.mpr c11
     cases H
   ·rw [if_neg c10] at H
    have c10b0 := beq_eq_false_iff_ne.mpr c10
    have c10b1 := bne_iff_ne.mpr c10
    cases H
  ·rw [if_neg c9] at H
   have c9b0 := beq_eq_false_iff_ne.mpr c9
   have c9b1 := bne_iff_ne.mpr c9
   cases H
 ·rw [if_neg c8] at H
  have c8b0 := beq_eq_false_iff_ne.mpr c8
  have c8b1 := bne_iff_ne.mpr c8
  cases H
def metrolabref26_Value.f (a0 : Int) : Option (Bool) := if a0 ≥ (-1048576) then (some (decide (a0 ≤ 1048576))) else (some false)
set_option maxHeartbeats 8000000 in
set_option maxRecDepth 100000 in
theorem metrolabref26_Value.calls (a0 : Int) (r : Bool) (w : World) (h : metrolabref26_Value.f a0 = some r) :
  Calls Tryz.prog 53 #[.int .i64 a0] w fun e w' => e = .returned (.bool r) ∧ Drawn0 w w' := by
 have H : (if a0 ≥ (-1048576) then (some (decide (a0 ≤ 1048576))) else (some false)) = some r := h
 clear h
 by_cases c2 : a0 ≥ (-1048576)
 ·rw [if_pos c2] at H
  have c2b0 : decide ((-1048576) ≤ a0) = true := decide_eq_true c2
  clear c2
  obtain rfl := Option.some.inj H
  go_enter Tryz.func53, Tryz.ntmps53
  go_wp2
  go_ret
  exact ⟨by first | rfl | (simp; done) | (simp [*]; done), by repeat (first | exact Drawn0.refl _ | apply Drawn0.step)⟩
 ·rw [if_neg c2] at H
  have c2b0 : decide ((-1048576) ≤ a0) = false := decide_eq_false c2
  clear c2
  obtain rfl := Option.some.inj H
  go_enter Tryz.func53, Tryz.ntmps53
  go_wp2
  go_ret
  exact ⟨by first | rfl | (simp; done) | (simp [*]; done), by repeat (first | exact Drawn0.refl _ | apply Drawn0.step)⟩
mutual
def metrolabref26_Check.l0 : Nat → List (S60) → Int → Option (Int)
 | 0, _, _ => none
 | k + 1, x0, x3 => if x3 < (x0.length : Int) then (if 0 ≤ x3 then ((metrolabref01_Check.f ((rd_T60 x0 x3).f1)).bind fun t195 => (if t195 = 0 then ((metrolabref01_Order.f ((rd_T60 x0 x3).f1) (⟨#[48]⟩ : ByteArray)).bind fun t197 => (if t197 ≤ 0 then (metrolabref26_Check.j1 k x0 x3 true) else ((metrolabref26_Value.f ((rd_T60 x0 x3).f0)).bind fun t199 => (metrolabref26_Check.j1 k x0 x3 (!t199))))) else (some t195))) else (none)) else (some 0)
def metrolabref26_Check.j1 : Nat → List (S60) → Int → Bool → Option (Int)
 | 0, _, _, _ => none
 | k + 1, x0, x3, x41 => if x41 = true then (some 2) else (if x3 > 0 then (if 0 ≤ x3 then (if x3 < (x0.length : Int) then (if 0 ≤ (wrap64 (x3 - 1)) then (if (wrap64 (x3 - 1)) < (x0.length : Int) then (if ((rd_T60 x0 x3).f0) ≤ ((rd_T60 x0 (wrap64 (x3 - 1))).f0) then (some 9) else (metrolabref26_Check.l0 k x0 (wrap64 (x3 + 1)))) else (none)) else (none)) else (none)) else (none)) else (metrolabref26_Check.l0 k x0 (wrap64 (x3 + 1))))
end
def metrolabref26_Check.f (k : Nat) (l0 : List (S60)) : Option (Int) := if (l0.length : Int) = 0 then (some 13) else (if (l0.length : Int) > 4096 then (some 5) else (metrolabref26_Check.l0 k l0 0))
set_option maxHeartbeats 8000000 in
set_option maxRecDepth 100000 in
theorem metrolabref26_Check.calls (k : Nat) (A0 : Option Addr) (c0 : Nat) (l0 : List (S60)) (r : Int) (w : World) (hr0 : Kd.C k60 w A0 l0.length l0) (hc0 : l0.length ≤ c0) (h : metrolabref26_Check.f k l0 = some r) :
  Calls Tryz.prog 21 #[.slice A0 l0.length c0] w fun e w' => e = .returned (.int .i64 r) ∧ Below w.heap.size w w' := by
 have HR0 := Aside0.mk hr0
 have HC0 := Aside0.mk hc0
 clear hr0 hc0
 have HB := Aside0.mk (Below.refl w.heap.size w)
 have H : (if (l0.length : Int) = 0 then (some 13) else (if (l0.length : Int) > 4096 then (some 5) else (metrolabref26_Check.l0 k l0 0))) = some r := h
 clear h
 by_cases c2 : (l0.length : Int) = 0
 ·rw [if_pos c2] at H
  have c2b0 := beq_iff_eq.mpr c2
  have c2b1 := bne_eq_false_iff_eq.mpr c2
  clear c2
  obtain rfl := Option.some.inj H
  go_enter Tryz.func21, Tryz.ntmps21
  go_wp2
  repeat (go_quiet (fail); try go_wp2)
  go_ret
  exact ⟨z24_, z10_⟩
 ·rw [if_neg c2] at H
  have c2b0 := beq_eq_false_iff_ne.mpr c2
  have c2b1 := bne_iff_ne.mpr c2
  have c2b2 : ¬ (l0 = []) := fun h_ => c2 (by rw [h_]; rfl)
  by_cases c3 : (l0.length : Int) > 4096
  ·rw [if_pos c3] at H
   have c3b0 : decide (4096 < (l0.length : Int)) = true := decide_eq_true c3
   have c3b1 : decide (4096 < l0.length) = true := decide_eq_true (by omega)
   clear c3
   obtain rfl := Option.some.inj H
   go_enter Tryz.func21, Tryz.ntmps21
   go_wp2
   repeat (go_quiet (fail); try go_wp2)
   go_ret
   exact ⟨z24_, z10_⟩
  ·rw [if_neg c3] at H
   have c3b0 : decide (4096 < (l0.length : Int)) = false := decide_eq_false c3
   have c3b1 : decide (4096 < l0.length) = false := decide_eq_false (by omega)
   clear c3
   have H' := Aside0.mk H
   clear H
   go_enter Tryz.func21, Tryz.ntmps21
   go_wp2
   repeat (go_quiet (fail); try go_wp2)
   go_loopg [3] k (fun kq v3 w' => ∃ (x3_1 : Int), v3 = .int .i64 x3_1 ∧ Aside0 (metrolabref26_Check.l0 kq l0 x3_1 = some r) ∧ Aside0 (kq ≤ k) ∧ Aside0 (Below w.heap.size w w'))
   case atStart => exact ⟨(0), z25_, H', ⟨Nat.le_refl _⟩, ⟨by repeat (first | (with_reducible first | exact HB.out | apply below_alloc | apply pw_below_drewN | apply below_drew1) | exact HB.out)⟩⟩
   case round =>
    clear H'
    try clear c2
    try clear c2b0
    try clear c2b1
    try clear c2b2
    try clear p2
    try clear c3
    try clear c3b0
    try clear c3b1
    obtain ⟨x3_1, rfl, HA, HK1, HB⟩ := hrel
    cases gk with
    | zero => exact absurd HA.out (by simp [metrolabref26_Check.l0])
    | succ k1 =>
     have H := HA.out
     clear HA
     simp only [metrolabref26_Check.l0] at H
     by_cases c4 : x3_1 < (l0.length : Int)
     ·rw [if_pos c4] at H
      have c4b0 : decide (x3_1 < (l0.length : Int)) = true := decide_eq_true c4
      clear c4
      by_cases c5 : 0 ≤ x3_1
      ·rw [if_pos c5] at H
       have c5b0 : decide (0 ≤ x3_1) = true := decide_eq_true c5
       clear c5
       obtain ⟨t195, A6, H⟩ := bindA H
       by_cases c7 : t195 = 0
       ·rw [if_pos c7] at H
        have c7b0 := beq_iff_eq.mpr c7
        have c7b1 := bne_eq_false_iff_eq.mpr c7
        clear c7
        have HC8 := Aside0.mk H
        clear H
        have p194 : 0 ≤ (x3_1 : Int) := of_decide_eq_true z26_
        have q194 : x3_1 < (l0.length : Int) := of_decide_eq_true z26_
        obtain ⟨ad194, e194, hx194_0, hx194_1⟩ := at_T60 HR0.out x3_1 p194 q194
        cases e194
        replace hx194_0 := (HB.out.cell (World.block_lt_of_cell? w _ hx194_0)).trans hx194_0
        replace hx194_1 := (HB.out.cell (World.block_lt_of_cell? w _ hx194_1)).trans hx194_1
        replace p194 := eq_true p194
        replace q194 := eq_true q194
        go_upto_region 11 with (first | (go_at_call 51; (with_reducible refine (metrolabref01_Check.calls ((rd_T60 l0 x3_1).f1) t195 _ A6.out).mono ?_); rintro e w9 ⟨rfl, hb⟩; replace HB := Aside0.mk (below_step z10_ hb); clear hb))
        repeat (go_quiet (first | (go_at_call 51; (with_reducible refine (metrolabref01_Check.calls ((rd_T60 l0 x3_1).f1) t195 _ A6.out).mono ?_); rintro e w9 ⟨rfl, hb⟩; replace HB := Aside0.mk (below_step z10_ hb); clear hb)); go_upto_region 11 with (first | (go_at_call 51; (with_reducible refine (metrolabref01_Check.calls ((rd_T60 l0 x3_1).f1) t195 _ A6.out).mono ?_); rintro e w9 ⟨rfl, hb⟩; replace HB := Aside0.mk (below_step z10_ hb); clear hb)))
        (try simp only [Act.put, List.setIfInBounds_toArray, List.set_cons_zero, List.set_cons_succ])
        go_cut [41] (fun v41 wc => ∃ (kq : Nat) (x41_7 : Bool), v41 = .bool x41_7 ∧ Aside0 (metrolabref26_Check.j1 kq l0 x3_1 x41_7 = some r) ∧ Aside0 (kq ≤ k1) ∧ Aside0 (Below w.heap.size w wc))
        case first =>
         have H := HC8.out
         clear HC8
         obtain ⟨t197, A10, H⟩ := bindA H
         by_cases c11 : t197 ≤ 0
         ·rw [if_pos c11] at H
          have c11b0 : decide (t197 ≤ 0) = true := decide_eq_true c11
          clear c11
          (first | rw [c11b0] | (simp only [i64_w, i32_w]; rw [c11b0]) | skip)
          have H' := Aside0.mk H
          clear H
          have p196 : 0 ≤ (x3_1 : Int) := of_decide_eq_true z26_
          have q196 : x3_1 < (l0.length : Int) := of_decide_eq_true z26_
          obtain ⟨ad196, e196, hx196_0, hx196_1⟩ := at_T60 HR0.out x3_1 p196 q196
          obtain rfl : ad194 = ad196 := (by injection e196)
          replace hx196_0 := (HB.out.cell (World.block_lt_of_cell? w _ hx196_0)).trans hx196_0
          replace hx196_1 := (HB.out.cell (World.block_lt_of_cell? w _ hx196_1)).trans hx196_1
          replace p196 := eq_true p196
          replace q196 := eq_true q196
          go_wp2_with (first | (go_at_call 52; (with_reducible refine (metrolabref01_Order.calls ((rd_T60 l0 x3_1).f1) (⟨#[48]⟩ : ByteArray) t197 _ A10.out).mono ?_); rintro e w12 ⟨rfl, hb⟩; replace HB := Aside0.mk (below_step z10_ hb); clear hb))
          repeat (go_quiet (first | (go_at_call 52; (with_reducible refine (metrolabref01_Order.calls ((rd_T60 l0 x3_1).f1) (⟨#[48]⟩ : ByteArray) t197 _ A10.out).mono ?_); rintro e w12 ⟨rfl, hb⟩; replace HB := Aside0.mk (below_step z10_ hb); clear hb)); try go_wp2_with (first | (go_at_call 52; (with_reducible refine (metrolabref01_Order.calls ((rd_T60 l0 x3_1).f1) (⟨#[48]⟩ : ByteArray) t197 _ A10.out).mono ?_); rintro e w12 ⟨rfl, hb⟩; replace HB := Aside0.mk (below_step z10_ hb); clear hb)))
          go_meet
          case rel => exact ⟨_, (true), z25_, H', ⟨by have := HK1.out; first | omega | exact Nat.le_refl _⟩, ⟨by repeat (first | (with_reducible first | exact HB.out | apply below_alloc | apply pw_below_drewN | apply below_drew1) | exact HB.out)⟩⟩
         ·rw [if_neg c11] at H
          have c11b0 : decide (t197 ≤ 0) = false := decide_eq_false c11
          clear c11
          (first | rw [c11b0] | (simp only [i64_w, i32_w]; rw [c11b0]) | skip)
          obtain ⟨t199, A13, H⟩ := bindA H
          have H' := Aside0.mk H
          clear H
          have p196 : 0 ≤ (x3_1 : Int) := of_decide_eq_true z26_
          have q196 : x3_1 < (l0.length : Int) := of_decide_eq_true z26_
          obtain ⟨ad196, e196, hx196_0, hx196_1⟩ := at_T60 HR0.out x3_1 p196 q196
          obtain rfl : ad194 = ad196 := (by injection e196)
          replace hx196_0 := (HB.out.cell (World.block_lt_of_cell? w _ hx196_0)).trans hx196_0
          replace hx196_1 := (HB.out.cell (World.block_lt_of_cell? w _ hx196_1)).trans hx196_1
          replace p196 := eq_true p196
          replace q196 := eq_true q196
          go_wp2_with (first | (go_at_call 52; (with_reducible refine (metrolabref01_Order.calls ((rd_T60 l0 x3_1).f1) (⟨#[48]⟩ : ByteArray) t197 _ A10.out).mono ?_); rintro e w14 ⟨rfl, hb⟩; replace HB := Aside0.mk (below_step z10_ hb); clear hb; have p198 : 0 ≤ (x3_1 : Int) := of_decide_eq_true z26_; have q198 : x3_1 < (l0.length : Int) := of_decide_eq_true z26_; obtain ⟨ad198, e198, hx198_0, hx198_1⟩ := at_T60 HR0.out x3_1 p198 q198; obtain rfl : ad194 = ad198 := (by injection e198); replace hx198_0 := (HB.out.cell (World.block_lt_of_cell? w _ hx198_0)).trans hx198_0; replace hx198_1 := (HB.out.cell (World.block_lt_of_cell? w _ hx198_1)).trans hx198_1; replace p198 := eq_true p198; replace q198 := eq_true q198) | (go_at_call 53; (with_reducible refine (metrolabref26_Value.calls ((rd_T60 l0 x3_1).f0) t199 _ A13.out).mono ?_); rintro e w' ⟨rfl, ⟨nd, rfl⟩⟩; (try first | exact ⟨rfl, _, World.drewN_drewN _ _ _⟩ | exact ⟨rfl, _, Eq.trans (World.drewN_drewN _ _ _) (congrArg (World.drewN _) (Nat.add_assoc _ _ _))⟩)))
          repeat (go_quiet (first | (go_at_call 52; (with_reducible refine (metrolabref01_Order.calls ((rd_T60 l0 x3_1).f1) (⟨#[48]⟩ : ByteArray) t197 _ A10.out).mono ?_); rintro e w14 ⟨rfl, hb⟩; replace HB := Aside0.mk (below_step z10_ hb); clear hb; have p198 : 0 ≤ (x3_1 : Int) := of_decide_eq_true z26_; have q198 : x3_1 < (l0.length : Int) := of_decide_eq_true z26_; obtain ⟨ad198, e198, hx198_0, hx198_1⟩ := at_T60 HR0.out x3_1 p198 q198; obtain rfl : ad194 = ad198 := (by injection e198); replace hx198_0 := (HB.out.cell (World.block_lt_of_cell? w _ hx198_0)).trans hx198_0; replace hx198_1 := (HB.out.cell (World.block_lt_of_cell? w _ hx198_1)).trans hx198_1; replace p198 := eq_true p198; replace q198 := eq_true q198) | (go_at_call 53; (with_reducible refine (metrolabref26_Value.calls ((rd_T60 l0 x3_1).f0) t199 _ A13.out).mono ?_); rintro e w' ⟨rfl, ⟨nd, rfl⟩⟩; (try first | exact ⟨rfl, _, World.drewN_drewN _ _ _⟩ | exact ⟨rfl, _, Eq.trans (World.drewN_drewN _ _ _) (congrArg (World.drewN _) (Nat.add_assoc _ _ _))⟩))); try go_wp2_with (first | (go_at_call 52; (with_reducible refine (metrolabref01_Order.calls ((rd_T60 l0 x3_1).f1) (⟨#[48]⟩ : ByteArray) t197 _ A10.out).mono ?_); rintro e w14 ⟨rfl, hb⟩; replace HB := Aside0.mk (below_step z10_ hb); clear hb; have p198 : 0 ≤ (x3_1 : Int) := of_decide_eq_true z26_; have q198 : x3_1 < (l0.length : Int) := of_decide_eq_true z26_; obtain ⟨ad198, e198, hx198_0, hx198_1⟩ := at_T60 HR0.out x3_1 p198 q198; obtain rfl : ad194 = ad198 := (by injection e198); replace hx198_0 := (HB.out.cell (World.block_lt_of_cell? w _ hx198_0)).trans hx198_0; replace hx198_1 := (HB.out.cell (World.block_lt_of_cell? w _ hx198_1)).trans hx198_1; replace p198 := eq_true p198; replace q198 := eq_true q198) | (go_at_call 53; (with_reducible refine (metrolabref26_Value.calls ((rd_T60 l0 x3_1).f0) t199 _ A13.out).mono ?_); rintro e w' ⟨rfl, ⟨nd, rfl⟩⟩; (try first | exact ⟨rfl, _, World.drewN_drewN _ _ _⟩ | exact ⟨rfl, _, Eq.trans (World.drewN_drewN _ _ _) (congrArg (World.drewN _) (Nat.add_assoc _ _ _))⟩))))
          go_meet
          case rel => exact ⟨_, (!t199), z25_, H', ⟨by have := HK1.out; first | omega | exact Nat.le_refl _⟩, ⟨by repeat (first | (with_reducible first | exact HB.out | apply below_alloc | apply pw_below_drewN | apply below_drew1) | exact HB.out)⟩⟩
        case rest =>
         clear HC8
         try clear c1
         try clear p1
         try clear q1
         try clear hx1
         try clear c2
         try clear c2b0
         try clear c2b1
         try clear c2b2
         try clear p2
         try clear c3
         try clear c3b0
         try clear c3b1
         try clear c4
         try clear c4b0
         try clear c5
         try clear c5b0
         try clear c7
         try clear c7b0
         try clear c7b1
         try clear c11
         try clear c11b0
         try clear hx194_0
         try clear hx194_1
         try clear hx196_0
         try clear hx196_1
         try clear hx198_0
         try clear hx198_1
         try clear p194
         try clear p196
         try clear p198
         try clear p2
         try clear q194
         try clear q196
         try clear q198
         obtain ⟨kq, x41_7, rfl, HA, HJ7, HB⟩ := hcut
         cases kq with
         | zero => exact absurd HA.out (by simp [metrolabref26_Check.j1])
         | succ kj7 =>
          have H := HA.out
          clear HA
          simp only [metrolabref26_Check.j1] at H
          by_cases c15 : x41_7 = true
          ·subst c15
           rw [if_pos rfl] at H
           obtain rfl := Option.some.inj H
           go_wp2
           repeat (go_quiet (fail); try go_wp2)
           go_ret
           exact ⟨z24_, z10_⟩
          ·replace c15 := Bool.eq_false_iff.mpr c15
           subst c15
           rw [if_neg (show ¬ (false = true) by decide)] at H
           by_cases c16 : x3_1 > 0
           ·rw [if_pos c16] at H
            have c16b0 : decide (0 < x3_1) = true := decide_eq_true c16
            clear c16
            by_cases c17 : 0 ≤ x3_1
            ·rw [if_pos c17] at H
             have c17b0 : decide (0 ≤ x3_1) = true := decide_eq_true c17
             clear c17
             by_cases c18 : x3_1 < (l0.length : Int)
             ·rw [if_pos c18] at H
              have c18b0 : decide (x3_1 < (l0.length : Int)) = true := decide_eq_true c18
              clear c18
              obtain ⟨ji19, hji19⟩ : ∃ j_ : Int, (wrap64 (x3_1 - 1)) = j_ := ⟨_, rfl⟩
              replace H : (if 0 ≤ (ji19) then (if (ji19) < (l0.length : Int) then (if ((rd_T60 l0 x3_1).f0) ≤ ((rd_T60 l0 (ji19)).f0) then (some 9) else (metrolabref26_Check.l0 kj7 l0 (wrap64 (x3_1 + 1)))) else (none)) else (none)) = some r := by first | (rw [hji19] at H; exact H) | (simp only [hji19] at H ⊢; exact H)
              have hji19w : (IntKind.i64.wrap (x3_1 - 1)) = ji19 := (i64_w _).trans hji19
              by_cases c20 : 0 ≤ (ji19)
              ·rw [if_pos c20] at H
               have c20b0 : decide (0 ≤ (ji19)) = true := decide_eq_true c20
               clear c20
               by_cases c21 : (ji19) < (l0.length : Int)
               ·rw [if_pos c21] at H
                have c21b0 : decide ((ji19) < (l0.length : Int)) = true := decide_eq_true c21
                clear c21
                by_cases c22 : ((rd_T60 l0 x3_1).f0) ≤ ((rd_T60 l0 (ji19)).f0)
                ·rw [if_pos c22] at H
                 have c22b0 : decide (((rd_T60 l0 x3_1).f0) ≤ ((rd_T60 l0 (ji19)).f0)) = true := decide_eq_true c22
                 clear c22
                 obtain rfl := Option.some.inj H
                 have p200 : 0 ≤ (x3_1 : Int) := of_decide_eq_true z26_
                 have q200 : x3_1 < (l0.length : Int) := of_decide_eq_true z26_
                 obtain ⟨ad200, e200, hx200_0, hx200_1⟩ := at_T60 HR0.out x3_1 p200 q200
                 obtain rfl : ad194 = ad200 := (by injection e200)
                 replace hx200_0 := (HB.out.cell (World.block_lt_of_cell? w _ hx200_0)).trans hx200_0
                 replace hx200_1 := (HB.out.cell (World.block_lt_of_cell? w _ hx200_1)).trans hx200_1
                 replace p200 := eq_true p200
                 replace q200 := eq_true q200
                 have p201 : 0 ≤ ((ji19) : Int) := of_decide_eq_true z26_
                 have q201 : (ji19) < (l0.length : Int) := of_decide_eq_true z26_
                 obtain ⟨ad201, e201, hx201_0, hx201_1⟩ := at_T60 HR0.out (ji19) p201 q201
                 obtain rfl : ad194 = ad201 := (by injection e201)
                 replace hx201_0 := (HB.out.cell (World.block_lt_of_cell? w _ hx201_0)).trans hx201_0
                 replace hx201_1 := (HB.out.cell (World.block_lt_of_cell? w _ hx201_1)).trans hx201_1
                 replace p201 := eq_true p201
                 replace q201 := eq_true q201
                 go_wp2
                 repeat (go_quiet (fail); try go_wp2)
                 go_ret
                 exact ⟨by first | rfl | (simp [errW_none, errW_some] <;> rfl) | (simp only [← hji19]; first | rfl | (simp [errW_none, errW_some] <;> rfl)) | (simp [*, errW_none, errW_some] <;> rfl), z10_⟩
                ·rw [if_neg c22] at H
                 have c22b0 : decide (((rd_T60 l0 x3_1).f0) ≤ ((rd_T60 l0 (ji19)).f0)) = false := decide_eq_false c22
                 clear c22
                 have H' := Aside0.mk H
                 clear H
                 have p200 : 0 ≤ (x3_1 : Int) := of_decide_eq_true z26_
                 have q200 : x3_1 < (l0.length : Int) := of_decide_eq_true z26_
                 obtain ⟨ad200, e200, hx200_0, hx200_1⟩ := at_T60 HR0.out x3_1 p200 q200
                 obtain rfl : ad194 = ad200 := (by injection e200)
                 replace hx200_0 := (HB.out.cell (World.block_lt_of_cell? w _ hx200_0)).trans hx200_0
                 replace hx200_1 := (HB.out.cell (World.block_lt_of_cell? w _ hx200_1)).trans hx200_1
                 replace p200 := eq_true p200
                 replace q200 := eq_true q200
                 have p201 : 0 ≤ ((ji19) : Int) := of_decide_eq_true z26_
                 have q201 : (ji19) < (l0.length : Int) := of_decide_eq_true z26_
                 obtain ⟨ad201, e201, hx201_0, hx201_1⟩ := at_T60 HR0.out (ji19) p201 q201
                 obtain rfl : ad194 = ad201 := (by injection e201)
                 replace hx201_0 := (HB.out.cell (World.block_lt_of_cell? w _ hx201_0)).trans hx201_0
                 replace hx201_1 := (HB.out.cell (World.block_lt_of_cell? w _ hx201_1)).trans hx201_1
                 replace p201 := eq_true p201
                 replace q201 := eq_true q201
                 go_wp2
                 repeat (go_quiet (fail); try go_wp2)
                 go_roundg kj7
                 case measure => have := HK1.out; have := HJ7.out; omega
                 case rel => exact ⟨(wrap64 (x3_1 + 1)), z25_, H', ⟨by have := HK1.out; have := HJ7.out; omega⟩, ⟨by repeat (first | (with_reducible first | exact HB.out | apply below_alloc | apply pw_below_drewN | apply below_drew1) | exact HB.out)⟩⟩
               ·rw [if_neg c21] at H
                exact absurd H (by simp)
              ·rw [if_neg c20] at H
               exact absurd H (by simp)
             ·rw [if_neg c18] at H
              exact absurd H (by simp)
            ·rw [if_neg c17] at H
             exact absurd H (by simp)
           ·rw [if_neg c16] at H
            have c16b0 : decide (0 < x3_1) = false := decide_eq_false c16
            clear c16
            have H' := Aside0.mk H
            clear H
            go_wp2
            repeat (go_quiet (fail); try go_wp2)
            go_roundg kj7
            case measure => have := HK1.out; have := HJ7.out; omega
            case rel => exact ⟨(wrap64 (x3_1 + 1)), z25_, H', ⟨by have := HK1.out; have := HJ7.out; omega⟩, ⟨by repeat (first | (with_reducible first | exact HB.out | apply below_alloc | apply pw_below_drewN | apply below_drew1) | exact HB.out)⟩⟩
       ·rw [if_neg c7] at H
        have c7b0 := beq_eq_false_iff_ne.mpr c7
        have c7b1 := bne_iff_ne.mpr c7
        obtain rfl := Option.some.inj H
        have p194 : 0 ≤ (x3_1 : Int) := of_decide_eq_true z26_
        have q194 : x3_1 < (l0.length : Int) := of_decide_eq_true z26_
        obtain ⟨ad194, e194, hx194_0, hx194_1⟩ := at_T60 HR0.out x3_1 p194 q194
        cases e194
        replace hx194_0 := (HB.out.cell (World.block_lt_of_cell? w _ hx194_0)).trans hx194_0
        replace hx194_1 := (HB.out.cell (World.block_lt_of_cell? w _ hx194_1)).trans hx194_1
        replace p194 := eq_true p194
        replace q194 := eq_true q194
        go_wp2_with (first | (go_at_call 51; (with_reducible refine (metrolabref01_Check.calls ((rd_T60 l0 x3_1).f1) t195 _ A6.out).mono ?_); rintro e w23 ⟨rfl, hb⟩; replace HB := Aside0.mk (below_step z10_ hb); clear hb))
        repeat (go_quiet (first | (go_at_call 51; (with_reducible refine (metrolabref01_Check.calls ((rd_T60 l0 x3_1).f1) t195 _ A6.out).mono ?_); rintro e w23 ⟨rfl, hb⟩; replace HB := Aside0.mk (below_step z10_ hb); clear hb)); try go_wp2_with (first | (go_at_call 51; (with_reducible refine (metrolabref01_Check.calls ((rd_T60 l0 x3_1).f1) t195 _ A6.out).mono ?_); rintro e w23 ⟨rfl, hb⟩; replace HB := Aside0.mk (below_step z10_ hb); clear hb)))
        go_ret
        exact ⟨z24_, z10_⟩
      ·rw [if_neg c5] at H
       exact absurd H (by simp)
     ·rw [if_neg c4] at H
      have c4b0 : decide (x3_1 < (l0.length : Int)) = false := decide_eq_false c4
      clear c4
      obtain rfl := Option.some.inj H
      go_wp2
      repeat (go_quiet (fail); try go_wp2)
      go_ret
      exact ⟨z24_, z10_⟩
def metrolabref26_Whole.l0 : Nat → List (S60) → ByteArray → Int → Option (ByteArray)
 | 0, _, _, _ => none
 | k + 1, x0, x3, x4 => if x4 < (x0.length : Int) then (if 0 ≤ x4 then ((metrolabref01_Plus.f x3 ((rd_T60 x0 x4).f1)).bind fun t203 => (metrolabref26_Whole.l0 k x0 t203 (wrap64 (x4 + 1)))) else (none)) else (some x3)
def metrolabref26_Whole.f (k : Nat) (l0 : List (S60)) : Option (ByteArray) := metrolabref26_Whole.l0 k l0 (⟨#[48]⟩ : ByteArray) 0
set_option maxHeartbeats 8000000 in
set_option maxRecDepth 100000 in
theorem metrolabref26_Whole.calls (k : Nat) (A0 : Option Addr) (c0 : Nat) (l0 : List (S60)) (r : ByteArray) (w : World) (hr0 : Kd.C k60 w A0 l0.length l0) (hc0 : l0.length ≤ c0) (h : metrolabref26_Whole.f k l0 = some r) :
  Calls Tryz.prog 42 #[.slice A0 l0.length c0] w fun e w' => e = .returned (.string r) ∧ Below w.heap.size w w' := by
 have HR0 := Aside0.mk hr0
 have HC0 := Aside0.mk hc0
 clear hr0 hc0
 have HB := Aside0.mk (Below.refl w.heap.size w)
 have H : (metrolabref26_Whole.l0 k l0 (⟨#[48]⟩ : ByteArray) 0) = some r := h
 clear h
 have H' := Aside0.mk H
 clear H
 go_enter Tryz.func42, Tryz.ntmps42
 go_wp2
 go_loopg [3, 4] k (fun kq v3 v4 w' => ∃ (x3_1 : ByteArray) (x4_1 : Int), v3 = .string x3_1 ∧ v4 = .int .i64 x4_1 ∧ Aside0 (metrolabref26_Whole.l0 kq l0 x3_1 x4_1 = some r) ∧ Aside0 (kq ≤ k) ∧ Aside0 (Below w.heap.size w w'))
 case atStart => exact ⟨((⟨#[48]⟩ : ByteArray)), (0), z25_, z25_, H', ⟨Nat.le_refl _⟩, ⟨by repeat (first | (with_reducible first | exact HB.out | apply below_alloc | apply pw_below_drewN | apply below_drew1) | exact HB.out)⟩⟩
 case round =>
  clear H'
  obtain ⟨x3_1, x4_1, rfl, rfl, HA, HK1, HB⟩ := hrel
  cases gk with
  | zero => exact absurd HA.out (by simp [metrolabref26_Whole.l0])
  | succ k1 =>
   have H := HA.out
   clear HA
   simp only [metrolabref26_Whole.l0] at H
   by_cases c2 : x4_1 < (l0.length : Int)
   ·rw [if_pos c2] at H
    have c2b0 : decide (x4_1 < (l0.length : Int)) = true := decide_eq_true c2
    clear c2
    by_cases c3 : 0 ≤ x4_1
    ·rw [if_pos c3] at H
     have c3b0 : decide (0 ≤ x4_1) = true := decide_eq_true c3
     clear c3
     obtain ⟨t203, A4, H⟩ := bindA H
     have H' := Aside0.mk H
     clear H
     have p202 : 0 ≤ (x4_1 : Int) := of_decide_eq_true z26_
     have q202 : x4_1 < (l0.length : Int) := of_decide_eq_true z26_
     obtain ⟨ad202, e202, hx202_0, hx202_1⟩ := at_T60 HR0.out x4_1 p202 q202
     cases e202
     replace hx202_0 := (HB.out.cell (World.block_lt_of_cell? w _ hx202_0)).trans hx202_0
     replace hx202_1 := (HB.out.cell (World.block_lt_of_cell? w _ hx202_1)).trans hx202_1
     replace p202 := eq_true p202
     replace q202 := eq_true q202
     go_wp2_with (first | (refine gy (f := 76) rfl (some 17) rfl Tryz.func76 (metrolabref01_Plus.calls x3_1 ((rd_T60 l0 x4_1).f1) t203 _ A4.out) z10_ ?_; clear HB; intro w5 HB))
     go_roundg k1
     case measure => have := HK1.out; omega
     case rel => exact ⟨(t203), (wrap64 (x4_1 + 1)), z25_, z25_, H', ⟨by have := HK1.out; omega⟩, ⟨by repeat (first | (with_reducible first | exact HB.out | apply below_alloc | apply pw_below_drewN | apply below_drew1) | exact HB.out)⟩⟩
    ·rw [if_neg c3] at H
     exact absurd H (by simp)
   ·rw [if_neg c2] at H
    have c2b0 : decide (x4_1 < (l0.length : Int)) = false := decide_eq_false c2
    clear c2
    obtain rfl := Option.some.inj H
    go_wp2
    go_ret
    exact ⟨z24_, z10_⟩
def metrolabref26_Chance.f (k : Nat) (l0 : List (S60)) (a1 : Int) : Option (ByteArray) := if 0 ≤ a1 then (if a1 < (l0.length : Int) then ((metrolabref26_Whole.f k l0).bind fun t205 => ((metrolabref02_Lowest.f ((rd_T60 l0 a1).f1) t205).bind fun t206 => (some t206))) else (none)) else (none)
def metrolabref26_Chance.T1 : Bool × List (List Nat × List Nat) := (true, [([], []), ([], []), ([0, 1], [0, 1]), ([2], [2]), ([3], [3]), ([], []), ([5], [5]), ([4, 6, 6], [4, 6]), ([7, 7, 0, 1, 2, 3, 4, 5, 6, 7], [7])])
def metrolabref26_Chance.B1 : List Nat := [0, 0, 3, 7, 15, 0, 32, 127, 255]
theorem metrolabref26_Chance.tab1 : rtab .any (opsOf Tryz.f67 1) = metrolabref26_Chance.T1 := by kernel_rfl
theorem metrolabref26_Chance.bits1 : waitsOk metrolabref26_Chance.T1.2 metrolabref26_Chance.B1 = true := by kernel_rfl
set_option maxHeartbeats 8000000 in
set_option maxRecDepth 100000 in
theorem metrolabref26_Chance.calls (k : Nat) (A0 : Option Addr) (c0 : Nat) (l0 : List (S60)) (a1 : Int) (r : ByteArray) (w : World) (hr0 : Kd.C k60 w A0 l0.length l0) (hc0 : l0.length ≤ c0) (h : metrolabref26_Chance.f k l0 a1 = some r) :
  Calls Tryz.prog 67 #[.slice A0 l0.length c0, .int .i64 a1] w fun e w' => e = .returned (.string r) ∧ Below w.heap.size w w' := by
 have HR0 := Aside0.mk hr0
 have HC0 := Aside0.mk hc0
 clear hr0 hc0
 have HB := Aside0.mk (Below.refl w.heap.size w)
 have H : (if 0 ≤ a1 then (if a1 < (l0.length : Int) then ((metrolabref26_Whole.f k l0).bind fun t205 => ((metrolabref02_Lowest.f ((rd_T60 l0 a1).f1) t205).bind fun t206 => (some t206))) else (none)) else (none)) = some r := h
 clear h
 by_cases c3 : 0 ≤ a1
 ·rw [if_pos c3] at H
  have c3b0 : decide (0 ≤ a1) = true := decide_eq_true c3
  clear c3
  by_cases c4 : a1 < (l0.length : Int)
  ·rw [if_pos c4] at H
   have c4b0 : decide (a1 < (l0.length : Int)) = true := decide_eq_true c4
   clear c4
   obtain ⟨t205, A5, H⟩ := bindA H
   obtain ⟨t206, A6, H⟩ := bindA H
   obtain rfl := Option.some.inj H
   go_enter Tryz.func67, Tryz.ntmps67
   try go_wp2
   have n0_ := Aside0.mk (below_drew1 HB.out)
   clear HB
   have HB := n0_
   clear n0_
   have p204 : 0 ≤ (a1 : Int) := of_decide_eq_true z26_
   have q204 : a1 < (l0.length : Int) := of_decide_eq_true z26_
   obtain ⟨ad204, e204, hx204_0, hx204_1⟩ := at_T60 HR0.out a1 p204 q204
   have hw204_1 := hx204_1
   have hw204_0 := hx204_0
   cases e204
   replace hx204_0 := (HB.out.cell (World.block_lt_of_cell? w _ hx204_0)).trans hx204_0
   replace hx204_1 := (HB.out.cell (World.block_lt_of_cell? w _ hx204_1)).trans hx204_1
   replace p204 := eq_true p204
   replace q204 := eq_true q204
   refine start_ (n := 9) (S := fun w' => w'.cell? (ad204.add ((a1).toNat * 2)) = some (.int .i64 ((rd_T60 l0 a1).f0)) ∧ w'.cell? ⟨(ad204.add ((a1).toNat * 2)).block, (ad204.add ((a1).toNat * 2)).off + 1, none⟩ = some (.string ((rd_T60 l0 a1).f1))) (ds := []) #[false, false, false, false, false, false, false, false, false] (by kernel_rfl) rfl rfl ⟨((HB.out.cell (World.block_lt_of_cell? w _ hw204_0)).trans hw204_0), ((HB.out.cell (World.block_lt_of_cell? w _ hw204_1)).trans hw204_1)⟩ (fun hHeld => ?_); refine with_tabW metrolabref26_Chance.tab1 metrolabref26_Chance.bits1 (fun HT_ HW_ => ?_)
   generalize w.drew = w7 at HB hx204_0 hx204_1 hHeld ⊢
   refine pure_ (i := 0) (N := some 5) (v := ?_) (a' := ?_) #[true, false, false, false, false, false, false, false, false] rfl rfl (any_of HT_.out (by kernel_rfl)) (fun _ _ _ h => h) (Or.inl ⟨by rfl, ?_⟩) ?_ ?_
   rotate_left
   ·intro w'
    go_simp
    with_reducible rfl
   rotate_left
   ·simp only [Act.put, List.setIfInBounds_toArray, List.set_cons_zero, List.set_cons_succ, i64_w, i32_w]
    rfl
   refine pure_ (i := 1) (N := some 6) (v := ?_) (a' := ?_) #[true, true, false, false, false, false, false, false, false] rfl rfl (any_of HT_.out (by kernel_rfl)) (fun _ _ _ h => h) (Or.inl ⟨by rfl, ?_⟩) ?_ ?_
   rotate_left
   ·intro w'
    go_simp
    with_reducible rfl
   rotate_left
   ·simp only [Act.put, List.setIfInBounds_toArray, List.set_cons_zero, List.set_cons_succ, i64_w, i32_w]
    rfl
   refine pure_ (i := 2) (N := some 7) (v := ?_) (a' := ?_) #[true, true, true, false, false, false, false, false, false] rfl rfl (any_of HT_.out (by kernel_rfl)) (fun _ _ _ h => h) (Or.inl ⟨by rfl, ?_⟩) ?_ ?_
   rotate_left
   ·intro w'
    go_simp
    with_reducible rfl
   rotate_left
   ·simp only [Act.put, List.setIfInBounds_toArray, List.set_cons_zero, List.set_cons_succ, i64_w, i32_w]
    rfl
   refine pure_ (i := 3) (N := some 8) (v := ?_) (a' := ?_) #[true, true, true, true, false, false, false, false, false] rfl rfl (any_of HT_.out (by kernel_rfl)) (fun _ _ _ h => h) (Or.inl ⟨by rfl, ?_⟩) ?_ ?_
   rotate_left
   ·intro w'
    go_simp
    with_reducible rfl
   rotate_left
   ·simp only [Act.put, List.setIfInBounds_toArray, List.set_cons_zero, List.set_cons_succ, i64_w, i32_w]
    rfl
   refine pure_ (i := 5) (N := some 10) (v := ?_) (a' := ?_) #[true, true, true, true, false, true, false, false, false] rfl rfl (any_of HT_.out (by kernel_rfl)) (fun _ _ _ h => h) (Or.inl ⟨by rfl, ?_⟩) ?_ ?_
   rotate_left
   ·intro w'
    go_simp
    with_reducible rfl
   rotate_left
   ·simp only [Act.put, List.setIfInBounds_toArray, List.set_cons_zero, List.set_cons_succ, i64_w, i32_w]
    rfl
   refine take_ (i := 4) (N := some 9) (v := ?_) (a' := ?_) #[true, true, true, true, true, true, false, false, false] rfl rfl (take_ofW HT_.out HW_.out (by kernel_rfl)) (fun _ _ _ h => h) (Or.inl ⟨by rfl, ?_⟩) hHeld ?_ ?_
   rotate_left
   ·rintro w' ⟨s0, s1⟩
    go_simp
    with_reducible rfl
   rotate_left
   ·simp only [Act.put, List.setIfInBounds_toArray, List.set_cons_zero, List.set_cons_succ, i64_w, i32_w]
    rfl
   refine one_ (i := 6) (N := some 11) #[true, true, true, true, true, true, true, false, false] rfl rfl (one_of HT_.out (by kernel_rfl)) (by decide) (fun K hK => ?_)
   refine goes_ Tryz.func42 (by kernel_rfl) rfl #[.slice (some ad204) l0.length c0] (by rfl) rfl rfl z9_ ?_
   with_reducible refine (metrolabref26_Whole.calls k _ _ l0 t205 _ ?side1 ?side2 A5.out).mono ?_
   (case side1 => repeat (first | exact (Kd.C_below HR0.out HB.out) | (with_reducible refine Kd.C_alloc ?_ _) | (with_reducible refine Kd.C_drewN ?_ _) | (with_reducible refine Kd.C_drew ?_)))
   (case side2 => exact HC0.out)
   rintro e w8 ⟨rfl, hb⟩
   refine ⟨_, rfl, ?_⟩
   have n0_ := Aside0.mk (below_step z10_ hb)
   clear HB
   have HB := n0_
   clear n0_
   (try clear hb)
   (try clear hb2)
   (try clear hk)
   (try clear hi)
   refine hK.out _ _ ⟨((HB.out.cell (World.block_lt_of_cell? w _ hw204_0)).trans hw204_0), ((HB.out.cell (World.block_lt_of_cell? w _ hw204_1)).trans hw204_1)⟩ (fun hHeld => ?_)
   clear hK K
   refine norm_ (a' := ?_) ?_ ?_
   rotate_left
   ·show Act.put _ (some 11) _ = _
    simp only [Act.put, List.setIfInBounds_toArray, List.set_cons_zero, List.set_cons_succ, i64_w, i32_w]
    rfl
   refine one_ (i := 7) (N := some 12) #[true, true, true, true, true, true, true, true, false] rfl rfl (one_of HT_.out (by kernel_rfl)) (by decide) (fun K hK => ?_)
   refine goes_ Tryz.func109 (by kernel_rfl) rfl #[.string ((rd_T60 l0 a1).f1), .string t205] (by rfl) rfl rfl z9_ ?_
   with_reducible refine (metrolabref02_Lowest.calls ((rd_T60 l0 a1).f1) t205 t206 _ A6.out).mono ?_
   rintro e w9 ⟨rfl, hb⟩
   refine ⟨_, rfl, ?_⟩
   have n0_ := Aside0.mk (below_step z10_ hb)
   clear HB
   have HB := n0_
   clear n0_
   (try clear hb)
   (try clear hb2)
   (try clear hk)
   (try clear hi)
   refine hK.out _ _ ⟨((HB.out.cell (World.block_lt_of_cell? w _ hw204_0)).trans hw204_0), ((HB.out.cell (World.block_lt_of_cell? w _ hw204_1)).trans hw204_1)⟩ (fun hHeld => ?_)
   clear hK K
   refine norm_ (a' := ?_) ?_ ?_
   rotate_left
   ·show Act.put _ (some 12) _ = _
    simp only [Act.put, List.setIfInBounds_toArray, List.set_cons_zero, List.set_cons_succ, i64_w, i32_w]
    rfl
   refine pure_ (i := 8) (N := some 4) (v := ?_) (a' := ?_) #[true, true, true, true, true, true, true, true, true] rfl rfl (any_of HT_.out (by kernel_rfl)) (fun _ _ _ h => h) (Or.inl ⟨by rfl, ?_⟩) ?_ ?_
   rotate_left
   ·intro w'
    go_simp
    with_reducible rfl
   rotate_left
   ·simp only [Act.put, List.setIfInBounds_toArray, List.set_cons_zero, List.set_cons_succ, i64_w, i32_w]
    rfl
   refine done_ (done_of HT_.out (by kernel_rfl)) ?_
   try go_wp2
   go_ret
   exact ⟨z24_, z10_⟩
  ·rw [if_neg c4] at H
   exact absurd H (by simp)
 ·rw [if_neg c3] at H
  exact absurd H (by simp)
end Go.Proofs.YtkdpcgmnkifbbaaGreatDoor.D
end
section
namespace Go.Proofs.YtkdpcgmnkifbbaaGreatDoor.D
open Go.RowKit Go.Proofs.YtkdpcgmnkifbbaaGreatDoorW.PrintWords Go.Proofs.YtkdpcgmnkifbbaaGreatDoorW.PrintLast Go.Proofs.YtkdpcgmnkifbbaaGreatDoorW.PrintMore
attribute [local go_sem] max2_int min2_int max_two min_two max_three min_three max_four min_four
set_option linter.unusedVariables false
set_option linter.unusedSimpArgs false
def metrolabref26_Total.f (k : Nat) (l0 : List (S60)) : Option (ByteArray × Int) := (metrolabref26_Check.f k l0).bind fun t237 => (if t237 = 0 then ((metrolabref26_Whole.f k l0).bind fun t238 => (some (t238, 0))) else (some ((⟨#[]⟩ : ByteArray), t237)))
set_option maxHeartbeats 8000000 in
set_option maxRecDepth 100000 in
theorem metrolabref26_Total.calls (k : Nat) (A0 : Option Addr) (c0 : Nat) (l0 : List (S60)) (r1 : ByteArray) (r2 : Int) (w : World) (hr0 : Kd.C k60 w A0 l0.length l0) (hc0 : l0.length ≤ c0) (h : metrolabref26_Total.f k l0 = some (r1, r2)) :
  Calls Tryz.prog 15 #[.slice A0 l0.length c0] w fun e w' => e = .returned (.tuple #[.string r1, .int .i64 r2]) ∧ Below w.heap.size w w' := by
 have HR0 := Aside0.mk hr0
 have HC0 := Aside0.mk hc0
 clear hr0 hc0
 have HB := Aside0.mk (Below.refl w.heap.size w)
 have H : ((metrolabref26_Check.f k l0).bind fun t237 => (if t237 = 0 then ((metrolabref26_Whole.f k l0).bind fun t238 => (some (t238, 0))) else (some ((⟨#[]⟩ : ByteArray), t237)))) = some (r1, r2) := h
 clear h
 obtain ⟨t237, A2, H⟩ := bindA H
 by_cases c3 : t237 = 0
 ·rw [if_pos c3] at H
  have c3b0 := beq_iff_eq.mpr c3
  have c3b1 := bne_eq_false_iff_eq.mpr c3
  clear c3
  obtain ⟨t238, A4, H⟩ := bindA H
  simp only [Option.some.injEq, Prod.mk.injEq] at H
  obtain ⟨rfl, rfl⟩ := H
  go_enter Tryz.func15, Tryz.ntmps15
  go_wp2_with (first | ((with_reducible refine gate_callee (f := 21) rfl ?_); refine goesL_ (some 6) rfl rfl Tryz.func21 (by kernel_rfl) rfl #[.slice A0 l0.length c0] rfl z9_ ?_; (with_reducible refine (metrolabref26_Check.calls k _ _ l0 t237 _ ?side1 ?side2 A2.out).mono ?_); (case side1 => repeat (first | exact HR0.out | (with_reducible refine Kd.C_alloc ?_ _) | (with_reducible refine Kd.C_drewN ?_ _) | (with_reducible refine Kd.C_drew ?_))); (case side2 => exact HC0.out); rintro e w5 ⟨rfl, hb⟩; refine ⟨_, rfl, ?_⟩; replace HB := Aside0.mk (below_step z10_ hb); clear hb) | ((with_reducible refine gate_callee (f := 42) rfl ?_); refine goesL_ (some 11) rfl rfl Tryz.func42 (by kernel_rfl) rfl #[.slice A0 l0.length c0] rfl z9_ ?_; (with_reducible refine (metrolabref26_Whole.calls k _ _ l0 t238 _ ?side1 ?side2 A4.out).mono ?_); (case side1 => repeat (first | exact (Kd.C_below HR0.out HB.out) | (with_reducible refine Kd.C_alloc ?_ _) | (with_reducible refine Kd.C_drewN ?_ _) | (with_reducible refine Kd.C_drew ?_))); (case side2 => exact HC0.out); rintro e w6 ⟨rfl, hb⟩; refine ⟨_, rfl, ?_⟩; replace HB := Aside0.mk (below_step z10_ hb); clear hb))
  go_ret2
  exact ⟨z24_, z10_⟩
 ·rw [if_neg c3] at H
  have c3b0 := beq_eq_false_iff_ne.mpr c3
  have c3b1 := bne_iff_ne.mpr c3
  simp only [Option.some.injEq, Prod.mk.injEq] at H
  obtain ⟨rfl, rfl⟩ := H
  go_enter Tryz.func15, Tryz.ntmps15
  go_wp2_with (first | ((with_reducible refine gate_callee (f := 21) rfl ?_); refine goesL_ (some 6) rfl rfl Tryz.func21 (by kernel_rfl) rfl #[.slice A0 l0.length c0] rfl z9_ ?_; (with_reducible refine (metrolabref26_Check.calls k _ _ l0 t237 _ ?side1 ?side2 A2.out).mono ?_); (case side1 => repeat (first | exact HR0.out | (with_reducible refine Kd.C_alloc ?_ _) | (with_reducible refine Kd.C_drewN ?_ _) | (with_reducible refine Kd.C_drew ?_))); (case side2 => exact HC0.out); rintro e w7 ⟨rfl, hb⟩; refine ⟨_, rfl, ?_⟩; replace HB := Aside0.mk (below_step z10_ hb); clear hb))
  go_ret2
  exact ⟨z24_, z10_⟩
def metrolabref26_Center.l0 : Nat → List (S60) → ByteArray → Int → Option (ByteArray)
 | 0, _, _, _ => none
 | k + 1, x0, x3, x4 => if x4 < (x0.length : Int) then ((metrolabref26_Chance.f k x0 x4).bind fun t239 => (if 0 ≤ x4 then ((metrolabref02_Whole.f ((rd_T60 x0 x4).f0)).bind fun t241 => ((metrolabref02_Times.f t239 t241).bind fun t242 => ((metrolabref02_Plus.f x3 t242).bind fun t243 => (metrolabref26_Center.l0 k x0 t243 (wrap64 (x4 + 1)))))) else (none))) else (some x3)
def metrolabref26_Center.f (k : Nat) (l0 : List (S60)) : Option (ByteArray) := metrolabref26_Center.l0 k l0 (⟨#[48]⟩ : ByteArray) 0
def metrolabref26_Center.T5 : Bool × List (List Nat × List Nat) := (true, [([], []), ([], []), ([], []), ([1, 2], [1, 2]), ([], []), ([], []), ([4, 5], [4, 5]), ([6], [6]), ([7], [7]), ([8, 3], [8]), ([3, 9, 9], [3, 9]), ([0, 10, 10], [0, 10]), ([11, 11, 0, 1, 2, 3, 4, 5, 6, 7, 8, 9, 10, 11], [0, 11])])
def metrolabref26_Center.B5 : List Nat := [0, 0, 0, 6, 0, 0, 48, 112, 240, 510, 1022, 2047, 4095]
theorem metrolabref26_Center.tab5 : rtab .any (opsOf Tryz.f44 5) = metrolabref26_Center.T5 := by kernel_rfl
theorem metrolabref26_Center.bits5 : waitsOk metrolabref26_Center.T5.2 metrolabref26_Center.B5 = true := by kernel_rfl
set_option maxHeartbeats 8000000 in
set_option maxRecDepth 100000 in
theorem metrolabref26_Center.calls (k : Nat) (A0 : Option Addr) (c0 : Nat) (l0 : List (S60)) (r : ByteArray) (w : World) (hr0 : Kd.C k60 w A0 l0.length l0) (hc0 : l0.length ≤ c0) (h : metrolabref26_Center.f k l0 = some r) :
  Calls Tryz.prog 44 #[.slice A0 l0.length c0] w fun e w' => e = .returned (.string r) ∧ Below w.heap.size w w' := by
 have HR0 := Aside0.mk hr0
 have HC0 := Aside0.mk hc0
 clear hr0 hc0
 have HB := Aside0.mk (Below.refl w.heap.size w)
 have H : (metrolabref26_Center.l0 k l0 (⟨#[48]⟩ : ByteArray) 0) = some r := h
 clear h
 have H' := Aside0.mk H
 clear H
 go_enter Tryz.func44, Tryz.ntmps44
 go_wp2
 go_loopg [3, 4] k (fun kq v3 v4 w' => ∃ (x3_1 : ByteArray) (x4_1 : Int), v3 = .string x3_1 ∧ v4 = .int .i64 x4_1 ∧ Aside0 (metrolabref26_Center.l0 kq l0 x3_1 x4_1 = some r) ∧ Aside0 (kq ≤ k) ∧ Aside0 (Below w.heap.size w w'))
 case atStart => exact ⟨((⟨#[48]⟩ : ByteArray)), (0), z25_, z25_, H', ⟨Nat.le_refl _⟩, ⟨by repeat (first | (with_reducible first | exact HB.out | apply below_alloc | apply pw_below_drewN | apply below_drew1) | exact HB.out)⟩⟩
 case round =>
  clear H'
  obtain ⟨x3_1, x4_1, rfl, rfl, HA, HK1, HB⟩ := hrel
  cases gk with
  | zero => exact absurd HA.out (by simp [metrolabref26_Center.l0])
  | succ k1 =>
   have H := HA.out
   clear HA
   simp only [metrolabref26_Center.l0] at H
   by_cases c2 : x4_1 < (l0.length : Int)
   ·rw [if_pos c2] at H
    have c2b0 : decide (x4_1 < (l0.length : Int)) = true := decide_eq_true c2
    clear c2
    obtain ⟨t239, A3, H⟩ := bindA H
    by_cases c4 : 0 ≤ x4_1
    ·rw [if_pos c4] at H
     have c4b0 : decide (0 ≤ x4_1) = true := decide_eq_true c4
     clear c4
     obtain ⟨t241, A5, H⟩ := bindA H
     obtain ⟨t242, A6, H⟩ := bindA H
     obtain ⟨t243, A7, H⟩ := bindA H
     have H' := Aside0.mk H
     clear H
     try go_wp2
     have n0_ := Aside0.mk (below_drew1 HB.out)
     clear HB
     have HB := n0_
     clear n0_
     have p240 : 0 ≤ (x4_1 : Int) := of_decide_eq_true z26_
     have q240 : x4_1 < (l0.length : Int) := of_decide_eq_true z26_
     obtain ⟨ad240, e240, hx240_0, hx240_1⟩ := at_T60 HR0.out x4_1 p240 q240
     have hw240_1 := hx240_1
     have hw240_0 := hx240_0
     cases e240
     replace hx240_0 := (HB.out.cell (World.block_lt_of_cell? w _ hx240_0)).trans hx240_0
     replace hx240_1 := (HB.out.cell (World.block_lt_of_cell? w _ hx240_1)).trans hx240_1
     replace p240 := eq_true p240
     replace q240 := eq_true q240
     refine start_ (n := 13) (S := fun w' => w'.cell? (ad240.add ((x4_1).toNat * 2)) = some (.int .i64 ((rd_T60 l0 x4_1).f0)) ∧ w'.cell? ⟨(ad240.add ((x4_1).toNat * 2)).block, (ad240.add ((x4_1).toNat * 2)).off + 1, none⟩ = some (.string ((rd_T60 l0 x4_1).f1))) (ds := []) #[false, false, false, false, false, false, false, false, false, false, false, false, false] (by kernel_rfl) rfl rfl ⟨((HB.out.cell (World.block_lt_of_cell? w _ hw240_0)).trans hw240_0), ((HB.out.cell (World.block_lt_of_cell? w _ hw240_1)).trans hw240_1)⟩ (fun hHeld => ?_); refine with_tabW metrolabref26_Center.tab5 metrolabref26_Center.bits5 (fun HT_ HW_ => ?_)
     generalize wr.drew = w8 at HB hx240_0 hx240_1 hHeld ⊢
     refine pure_ (i := 0) (N := some 11) (v := ?_) (a' := ?_) #[true, false, false, false, false, false, false, false, false, false, false, false, false] rfl rfl (any_of HT_.out (by kernel_rfl)) (fun _ _ _ h => h) (Or.inl ⟨by rfl, ?_⟩) ?_ ?_
     rotate_left
     ·intro w'
      go_simp
      with_reducible rfl
     rotate_left
     ·simp only [Act.put, List.setIfInBounds_toArray, List.set_cons_zero, List.set_cons_succ, i64_w, i32_w]
      rfl
     refine pure_ (i := 1) (N := some 12) (v := ?_) (a' := ?_) #[true, true, false, false, false, false, false, false, false, false, false, false, false] rfl rfl (any_of HT_.out (by kernel_rfl)) (fun _ _ _ h => h) (Or.inl ⟨by rfl, ?_⟩) ?_ ?_
     rotate_left
     ·intro w'
      go_simp
      with_reducible rfl
     rotate_left
     ·simp only [Act.put, List.setIfInBounds_toArray, List.set_cons_zero, List.set_cons_succ, i64_w, i32_w]
      rfl
     refine pure_ (i := 2) (N := some 13) (v := ?_) (a' := ?_) #[true, true, true, false, false, false, false, false, false, false, false, false, false] rfl rfl (any_of HT_.out (by kernel_rfl)) (fun _ _ _ h => h) (Or.inl ⟨by rfl, ?_⟩) ?_ ?_
     rotate_left
     ·intro w'
      go_simp
      with_reducible rfl
     rotate_left
     ·simp only [Act.put, List.setIfInBounds_toArray, List.set_cons_zero, List.set_cons_succ, i64_w, i32_w]
      rfl
     refine pure_ (i := 4) (N := some 15) (v := ?_) (a' := ?_) #[true, true, true, false, true, false, false, false, false, false, false, false, false] rfl rfl (any_of HT_.out (by kernel_rfl)) (fun _ _ _ h => h) (Or.inl ⟨by rfl, ?_⟩) ?_ ?_
     rotate_left
     ·intro w'
      go_simp
      with_reducible rfl
     rotate_left
     ·simp only [Act.put, List.setIfInBounds_toArray, List.set_cons_zero, List.set_cons_succ, i64_w, i32_w]
      rfl
     refine pure_ (i := 5) (N := some 16) (v := ?_) (a' := ?_) #[true, true, true, false, true, true, false, false, false, false, false, false, false] rfl rfl (any_of HT_.out (by kernel_rfl)) (fun _ _ _ h => h) (Or.inl ⟨by rfl, ?_⟩) ?_ ?_
     rotate_left
     ·intro w'
      go_simp
      with_reducible rfl
     rotate_left
     ·simp only [Act.put, List.setIfInBounds_toArray, List.set_cons_zero, List.set_cons_succ, i64_w, i32_w]
      rfl
     refine pure_ (i := 6) (N := some 17) (v := ?_) (a' := ?_) #[true, true, true, false, true, true, true, false, false, false, false, false, false] rfl rfl (any_of HT_.out (by kernel_rfl)) (fun _ _ _ h => h) (Or.inl ⟨by rfl, ?_⟩) ?_ ?_
     rotate_left
     ·intro w'
      go_simp
      with_reducible rfl
     rotate_left
     ·simp only [Act.put, List.setIfInBounds_toArray, List.set_cons_zero, List.set_cons_succ, i64_w, i32_w]
      rfl
     refine pure_ (i := 7) (N := some 18) (v := ?_) (a' := ?_) #[true, true, true, false, true, true, true, true, false, false, false, false, false] rfl rfl (any_of HT_.out (by kernel_rfl)) (fun _ _ _ h => h) (Or.inl ⟨by rfl, ?_⟩) ?_ ?_
     rotate_left
     ·intro w'
      go_simp
      with_reducible rfl
     rotate_left
     ·simp only [Act.put, List.setIfInBounds_toArray, List.set_cons_zero, List.set_cons_succ, i64_w, i32_w]
      rfl
     refine take_ (i := 8) (N := some 19) (v := ?_) (a' := ?_) #[true, true, true, false, true, true, true, true, true, false, false, false, false] rfl rfl (take_ofW HT_.out HW_.out (by kernel_rfl)) (fun _ _ _ h => h) (Or.inl ⟨by rfl, ?_⟩) hHeld ?_ ?_
     rotate_left
     ·rintro w' ⟨s0, s1⟩
      go_simp
      with_reducible rfl
     rotate_left
     ·simp only [Act.put, List.setIfInBounds_toArray, List.set_cons_zero, List.set_cons_succ, i64_w, i32_w]
      rfl
     refine one_ (i := 3) (N := some 14) #[true, true, true, true, true, true, true, true, true, false, false, false, false] rfl rfl (one_of HT_.out (by kernel_rfl)) (by decide) (fun K hK => ?_)
     refine goes_ Tryz.func67 (by kernel_rfl) rfl #[.slice (some ad240) l0.length c0, .int .i64 x4_1] (by rfl) rfl rfl z9_ ?_
     with_reducible refine (metrolabref26_Chance.calls k1 _ _ l0 x4_1 t239 _ ?side1 ?side2 A3.out).mono ?_
     (case side1 => repeat (first | exact (Kd.C_below HR0.out HB.out) | (with_reducible refine Kd.C_alloc ?_ _) | (with_reducible refine Kd.C_drewN ?_ _) | (with_reducible refine Kd.C_drew ?_)))
     (case side2 => exact HC0.out)
     rintro e w9 ⟨rfl, hb⟩
     refine ⟨_, rfl, ?_⟩
     have n0_ := Aside0.mk (below_step z10_ hb)
     clear HB
     have HB := n0_
     clear n0_
     (try clear hb)
     (try clear hb2)
     (try clear hk)
     (try clear hi)
     refine hK.out _ _ ⟨((HB.out.cell (World.block_lt_of_cell? w _ hw240_0)).trans hw240_0), ((HB.out.cell (World.block_lt_of_cell? w _ hw240_1)).trans hw240_1)⟩ (fun hHeld => ?_)
     clear hK K
     refine norm_ (a' := ?_) ?_ ?_
     rotate_left
     ·show Act.put _ (some 14) _ = _
      simp only [Act.put, List.setIfInBounds_toArray, List.set_cons_zero, List.set_cons_succ, i64_w, i32_w]
      rfl
     refine one_ (i := 9) (N := some 20) #[true, true, true, true, true, true, true, true, true, true, false, false, false] rfl rfl (one_of HT_.out (by kernel_rfl)) (by decide) (fun K hK => ?_)
     refine goes_ Tryz.func81 (by kernel_rfl) rfl #[.int .i64 ((rd_T60 l0 x4_1).f0)] (by rfl) rfl rfl z9_ ?_
     with_reducible refine (metrolabref02_Whole.calls ((rd_T60 l0 x4_1).f0) t241 _ A5.out).mono ?_
     rintro e w10 ⟨rfl, hb⟩
     refine ⟨_, rfl, ?_⟩
     have n0_ := Aside0.mk (below_step z10_ hb)
     clear HB
     have HB := n0_
     clear n0_
     (try clear hb)
     (try clear hb2)
     (try clear hk)
     (try clear hi)
     refine hK.out _ _ ⟨((HB.out.cell (World.block_lt_of_cell? w _ hw240_0)).trans hw240_0), ((HB.out.cell (World.block_lt_of_cell? w _ hw240_1)).trans hw240_1)⟩ (fun hHeld => ?_)
     clear hK K
     refine norm_ (a' := ?_) ?_ ?_
     rotate_left
     ·show Act.put _ (some 20) _ = _
      simp only [Act.put, List.setIfInBounds_toArray, List.set_cons_zero, List.set_cons_succ, i64_w, i32_w]
      rfl
     refine one_ (i := 10) (N := some 21) #[true, true, true, true, true, true, true, true, true, true, true, false, false] rfl rfl (one_of HT_.out (by kernel_rfl)) (by decide) (fun K hK => ?_)
     refine goes_ Tryz.func80 (by kernel_rfl) rfl #[.string t239, .string t241] (by rfl) rfl rfl z9_ ?_
     with_reducible refine (metrolabref02_Times.calls t239 t241 t242 _ A6.out).mono ?_
     rintro e w11 ⟨rfl, hb⟩
     refine ⟨_, rfl, ?_⟩
     have n0_ := Aside0.mk (below_step z10_ hb)
     clear HB
     have HB := n0_
     clear n0_
     (try clear hb)
     (try clear hb2)
     (try clear hk)
     (try clear hi)
     refine hK.out _ _ ⟨((HB.out.cell (World.block_lt_of_cell? w _ hw240_0)).trans hw240_0), ((HB.out.cell (World.block_lt_of_cell? w _ hw240_1)).trans hw240_1)⟩ (fun hHeld => ?_)
     clear hK K
     refine norm_ (a' := ?_) ?_ ?_
     rotate_left
     ·show Act.put _ (some 21) _ = _
      simp only [Act.put, List.setIfInBounds_toArray, List.set_cons_zero, List.set_cons_succ, i64_w, i32_w]
      rfl
     refine one_ (i := 11) (N := some 22) #[true, true, true, true, true, true, true, true, true, true, true, true, false] rfl rfl (one_of HT_.out (by kernel_rfl)) (by decide) (fun K hK => ?_)
     refine goes_ Tryz.func66 (by kernel_rfl) rfl #[.string x3_1, .string t242] (by rfl) rfl rfl z9_ ?_
     with_reducible refine (metrolabref02_Plus.calls x3_1 t242 t243 _ A7.out).mono ?_
     rintro e w12 ⟨rfl, hb⟩
     refine ⟨_, rfl, ?_⟩
     have n0_ := Aside0.mk (below_step z10_ hb)
     clear HB
     have HB := n0_
     clear n0_
     (try clear hb)
     (try clear hb2)
     (try clear hk)
     (try clear hi)
     refine hK.out _ _ ⟨((HB.out.cell (World.block_lt_of_cell? w _ hw240_0)).trans hw240_0), ((HB.out.cell (World.block_lt_of_cell? w _ hw240_1)).trans hw240_1)⟩ (fun hHeld => ?_)
     clear hK K
     refine norm_ (a' := ?_) ?_ ?_
     rotate_left
     ·show Act.put _ (some 22) _ = _
      simp only [Act.put, List.setIfInBounds_toArray, List.set_cons_zero, List.set_cons_succ, i64_w, i32_w]
      rfl
     refine pure_ (i := 12) (N := some 3) (v := ?_) (a' := ?_) #[true, true, true, true, true, true, true, true, true, true, true, true, true] rfl rfl (any_of HT_.out (by kernel_rfl)) (fun _ _ _ h => h) (Or.inl ⟨by rfl, ?_⟩) ?_ ?_
     rotate_left
     ·intro w'
      go_simp
      with_reducible rfl
     rotate_left
     ·simp only [Act.put, List.setIfInBounds_toArray, List.set_cons_zero, List.set_cons_succ, i64_w, i32_w]
      rfl
     refine done_ (done_of HT_.out (by kernel_rfl)) ?_
     try go_wp2
     go_roundg k1
     case measure => have := HK1.out; omega
     case rel => exact ⟨(t243), (wrap64 (x4_1 + 1)), z25_, z25_, H', ⟨by have := HK1.out; omega⟩, ⟨by repeat (first | (with_reducible first | exact HB.out | apply below_alloc | apply pw_below_drewN | apply below_drew1) | exact HB.out)⟩⟩
    ·rw [if_neg c4] at H
     exact absurd H (by simp)
   ·rw [if_neg c2] at H
    have c2b0 : decide (x4_1 < (l0.length : Int)) = false := decide_eq_false c2
    clear c2
    obtain rfl := Option.some.inj H
    go_wp2
    go_ret
    exact ⟨z24_, z10_⟩
def metrolabref26_Mean.f (k : Nat) (l0 : List (S60)) : Option (ByteArray × Int) := (metrolabref26_Check.f k l0).bind fun t244 => (if t244 = 0 then ((metrolabref26_Center.f k l0).bind fun t245 => (some (t245, 0))) else (some ((⟨#[]⟩ : ByteArray), t244)))
set_option maxHeartbeats 8000000 in
set_option maxRecDepth 100000 in
theorem metrolabref26_Mean.calls (k : Nat) (A0 : Option Addr) (c0 : Nat) (l0 : List (S60)) (r1 : ByteArray) (r2 : Int) (w : World) (hr0 : Kd.C k60 w A0 l0.length l0) (hc0 : l0.length ≤ c0) (h : metrolabref26_Mean.f k l0 = some (r1, r2)) :
  Calls Tryz.prog 17 #[.slice A0 l0.length c0] w fun e w' => e = .returned (.tuple #[.string r1, .int .i64 r2]) ∧ Below w.heap.size w w' := by
 have HR0 := Aside0.mk hr0
 have HC0 := Aside0.mk hc0
 clear hr0 hc0
 have HB := Aside0.mk (Below.refl w.heap.size w)
 have H : ((metrolabref26_Check.f k l0).bind fun t244 => (if t244 = 0 then ((metrolabref26_Center.f k l0).bind fun t245 => (some (t245, 0))) else (some ((⟨#[]⟩ : ByteArray), t244)))) = some (r1, r2) := h
 clear h
 obtain ⟨t244, A2, H⟩ := bindA H
 by_cases c3 : t244 = 0
 ·rw [if_pos c3] at H
  have c3b0 := beq_iff_eq.mpr c3
  have c3b1 := bne_eq_false_iff_eq.mpr c3
  clear c3
  obtain ⟨t245, A4, H⟩ := bindA H
  simp only [Option.some.injEq, Prod.mk.injEq] at H
  obtain ⟨rfl, rfl⟩ := H
  go_enter Tryz.func17, Tryz.ntmps17
  go_wp2_with (first | ((with_reducible refine gate_callee (f := 21) rfl ?_); refine goesL_ (some 6) rfl rfl Tryz.func21 (by kernel_rfl) rfl #[.slice A0 l0.length c0] rfl z9_ ?_; (with_reducible refine (metrolabref26_Check.calls k _ _ l0 t244 _ ?side1 ?side2 A2.out).mono ?_); (case side1 => repeat (first | exact HR0.out | (with_reducible refine Kd.C_alloc ?_ _) | (with_reducible refine Kd.C_drewN ?_ _) | (with_reducible refine Kd.C_drew ?_))); (case side2 => exact HC0.out); rintro e w5 ⟨rfl, hb⟩; refine ⟨_, rfl, ?_⟩; replace HB := Aside0.mk (below_step z10_ hb); clear hb) | ((with_reducible refine gate_callee (f := 44) rfl ?_); refine goesL_ (some 11) rfl rfl Tryz.func44 (by kernel_rfl) rfl #[.slice A0 l0.length c0] rfl z9_ ?_; (with_reducible refine (metrolabref26_Center.calls k _ _ l0 t245 _ ?side1 ?side2 A4.out).mono ?_); (case side1 => repeat (first | exact (Kd.C_below HR0.out HB.out) | (with_reducible refine Kd.C_alloc ?_ _) | (with_reducible refine Kd.C_drewN ?_ _) | (with_reducible refine Kd.C_drew ?_))); (case side2 => exact HC0.out); rintro e w6 ⟨rfl, hb⟩; refine ⟨_, rfl, ?_⟩; replace HB := Aside0.mk (below_step z10_ hb); clear hb))
  go_ret2
  exact ⟨z24_, z10_⟩
 ·rw [if_neg c3] at H
  have c3b0 := beq_eq_false_iff_ne.mpr c3
  have c3b1 := bne_iff_ne.mpr c3
  simp only [Option.some.injEq, Prod.mk.injEq] at H
  obtain ⟨rfl, rfl⟩ := H
  go_enter Tryz.func17, Tryz.ntmps17
  go_wp2_with (first | ((with_reducible refine gate_callee (f := 21) rfl ?_); refine goesL_ (some 6) rfl rfl Tryz.func21 (by kernel_rfl) rfl #[.slice A0 l0.length c0] rfl z9_ ?_; (with_reducible refine (metrolabref26_Check.calls k _ _ l0 t244 _ ?side1 ?side2 A2.out).mono ?_); (case side1 => repeat (first | exact HR0.out | (with_reducible refine Kd.C_alloc ?_ _) | (with_reducible refine Kd.C_drewN ?_ _) | (with_reducible refine Kd.C_drew ?_))); (case side2 => exact HC0.out); rintro e w7 ⟨rfl, hb⟩; refine ⟨_, rfl, ?_⟩; replace HB := Aside0.mk (below_step z10_ hb); clear hb))
  go_ret2
  exact ⟨z24_, z10_⟩
def metrolabref26_Spread.l0 : Nat → List (S60) → ByteArray → ByteArray → Int → Option (ByteArray)
 | 0, _, _, _, _ => none
 | k + 1, x0, x3, x4, x5 => if x5 < (x0.length : Int) then (if 0 ≤ x5 then ((metrolabref02_Whole.f ((rd_T60 x0 x5).f0)).bind fun t248 => ((metrolabref02_Minus.f t248 x4).bind fun t249 => ((metrolabref26_Chance.f k x0 x5).bind fun t250 => ((metrolabref02_Times.f t249 t249).bind fun t251 => ((metrolabref02_Times.f t250 t251).bind fun t252 => ((metrolabref02_Plus.f x3 t252).bind fun t253 => (metrolabref26_Spread.l0 k x0 t253 x4 (wrap64 (x5 + 1))))))))) else (none)) else (some x3)
def metrolabref26_Spread.f (k : Nat) (l0 : List (S60)) : Option (ByteArray) := (metrolabref26_Center.f k l0).bind fun t246 => (metrolabref26_Spread.l0 k l0 (⟨#[48]⟩ : ByteArray) t246 0)
set_option maxHeartbeats 8000000 in
set_option maxRecDepth 100000 in
theorem metrolabref26_Spread.calls (k : Nat) (A0 : Option Addr) (c0 : Nat) (l0 : List (S60)) (r : ByteArray) (w : World) (hr0 : Kd.C k60 w A0 l0.length l0) (hc0 : l0.length ≤ c0) (h : metrolabref26_Spread.f k l0 = some r) :
  Calls Tryz.prog 47 #[.slice A0 l0.length c0] w fun e w' => e = .returned (.string r) ∧ Below w.heap.size w w' := by
 have HR0 := Aside0.mk hr0
 have HC0 := Aside0.mk hc0
 clear hr0 hc0
 have HB := Aside0.mk (Below.refl w.heap.size w)
 have H : ((metrolabref26_Center.f k l0).bind fun t246 => (metrolabref26_Spread.l0 k l0 (⟨#[48]⟩ : ByteArray) t246 0)) = some r := h
 clear h
 obtain ⟨t246, A2, H⟩ := bindA H
 have H' := Aside0.mk H
 clear H
 go_enter Tryz.func47, Tryz.ntmps47
 go_wp2_with (first | ((with_reducible refine gate_callee (f := 44) rfl ?_); refine goesL_ (some 8) rfl rfl Tryz.func44 (by kernel_rfl) rfl #[.slice A0 l0.length c0] rfl z9_ ?_; (with_reducible refine (metrolabref26_Center.calls k _ _ l0 t246 _ ?side1 ?side2 A2.out).mono ?_); (case side1 => repeat (first | exact HR0.out | (with_reducible refine Kd.C_alloc ?_ _) | (with_reducible refine Kd.C_drewN ?_ _) | (with_reducible refine Kd.C_drew ?_))); (case side2 => exact HC0.out); rintro e w3 ⟨rfl, hb⟩; refine ⟨_, rfl, ?_⟩; replace HB := Aside0.mk (below_step z10_ hb); clear hb))
 go_loopg [3, 5] k (fun kq v3 v5 w' => ∃ (x3_1 : ByteArray) (x5_1 : Int), v3 = .string x3_1 ∧ v5 = .int .i64 x5_1 ∧ Aside0 (metrolabref26_Spread.l0 kq l0 x3_1 t246 x5_1 = some r) ∧ Aside0 (kq ≤ k) ∧ Aside0 (Below w.heap.size w w'))
 case atStart => exact ⟨((⟨#[48]⟩ : ByteArray)), (0), z25_, z25_, H', ⟨Nat.le_refl _⟩, ⟨by repeat (first | (with_reducible first | exact HB.out | apply below_alloc | apply pw_below_drewN | apply below_drew1) | exact HB.out)⟩⟩
 case round =>
  clear H'
  try clear p2
  obtain ⟨x3_1, x5_1, rfl, rfl, HA, HK1, HB⟩ := hrel
  cases gk with
  | zero => exact absurd HA.out (by simp [metrolabref26_Spread.l0])
  | succ k1 =>
   have H := HA.out
   clear HA
   simp only [metrolabref26_Spread.l0] at H
   by_cases c4 : x5_1 < (l0.length : Int)
   ·rw [if_pos c4] at H
    have c4b0 : decide (x5_1 < (l0.length : Int)) = true := decide_eq_true c4
    clear c4
    by_cases c5 : 0 ≤ x5_1
    ·rw [if_pos c5] at H
     have c5b0 : decide (0 ≤ x5_1) = true := decide_eq_true c5
     clear c5
     obtain ⟨t248, A6, H⟩ := bindA H
     obtain ⟨t249, A7, H⟩ := bindA H
     obtain ⟨t250, A8, H⟩ := bindA H
     obtain ⟨t251, A9, H⟩ := bindA H
     obtain ⟨t252, A10, H⟩ := bindA H
     obtain ⟨t253, A11, H⟩ := bindA H
     have H' := Aside0.mk H
     clear H
     have p247 : 0 ≤ (x5_1 : Int) := of_decide_eq_true z26_
     have q247 : x5_1 < (l0.length : Int) := of_decide_eq_true z26_
     obtain ⟨ad247, e247, hx247_0, hx247_1⟩ := at_T60 HR0.out x5_1 p247 q247
     cases e247
     replace hx247_0 := (HB.out.cell (World.block_lt_of_cell? w _ hx247_0)).trans hx247_0
     replace hx247_1 := (HB.out.cell (World.block_lt_of_cell? w _ hx247_1)).trans hx247_1
     replace p247 := eq_true p247
     replace q247 := eq_true q247
     go_wp2_with (first | (refine gy (f := 81) rfl (some 20) rfl Tryz.func81 (metrolabref02_Whole.calls ((rd_T60 l0 x5_1).f0) t248 _ A6.out) z10_ ?_; clear HB; intro w12 HB) | (refine gy (f := 86) rfl (some 22) rfl Tryz.func86 (metrolabref02_Minus.calls t248 t246 t249 _ A7.out) z10_ ?_; clear HB; intro w13 HB) | ((with_reducible refine gate_callee (f := 67) rfl ?_); refine goesL_ (some 26) rfl rfl Tryz.func67 (by kernel_rfl) rfl #[.slice (some ad247) l0.length c0, .int .i64 x5_1] rfl z9_ ?_; (with_reducible refine (metrolabref26_Chance.calls k1 _ _ l0 x5_1 t250 _ ?side1 ?side2 A8.out).mono ?_); (case side1 => repeat (first | exact (Kd.C_below HR0.out HB.out) | (with_reducible refine Kd.C_alloc ?_ _) | (with_reducible refine Kd.C_drewN ?_ _) | (with_reducible refine Kd.C_drew ?_))); (case side2 => exact HC0.out); rintro e w14 ⟨rfl, hb⟩; refine ⟨_, rfl, ?_⟩; replace HB := Aside0.mk (below_step z10_ hb); clear hb) | (refine gy (f := 80) rfl (some 29) rfl Tryz.func80 (metrolabref02_Times.calls t249 t249 t251 _ A9.out) z10_ ?_; clear HB; intro w15 HB) | (refine gy (f := 80) rfl (some 30) rfl Tryz.func80 (metrolabref02_Times.calls t250 t251 t252 _ A10.out) z10_ ?_; clear HB; intro w16 HB) | (refine gy (f := 66) rfl (some 31) rfl Tryz.func66 (metrolabref02_Plus.calls x3_1 t252 t253 _ A11.out) z10_ ?_; clear HB; intro w17 HB))
     go_roundg k1
     case measure => have := HK1.out; omega
     case rel => exact ⟨(t253), (wrap64 (x5_1 + 1)), z25_, z25_, H', ⟨by have := HK1.out; omega⟩, ⟨by repeat (first | (with_reducible first | exact HB.out | apply below_alloc | apply pw_below_drewN | apply below_drew1) | exact HB.out)⟩⟩
    ·rw [if_neg c5] at H
     exact absurd H (by simp)
   ·rw [if_neg c4] at H
    have c4b0 : decide (x5_1 < (l0.length : Int)) = false := decide_eq_false c4
    clear c4
    obtain rfl := Option.some.inj H
    go_wp2
    go_ret
    exact ⟨z24_, z10_⟩
def metrolabref26_Variance.f (k : Nat) (l0 : List (S60)) : Option (ByteArray × Int) := (metrolabref26_Check.f k l0).bind fun t254 => (if t254 = 0 then ((metrolabref26_Spread.f k l0).bind fun t255 => (some (t255, 0))) else (some ((⟨#[]⟩ : ByteArray), t254)))
set_option maxHeartbeats 8000000 in
set_option maxRecDepth 100000 in
theorem metrolabref26_Variance.calls (k : Nat) (A0 : Option Addr) (c0 : Nat) (l0 : List (S60)) (r1 : ByteArray) (r2 : Int) (w : World) (hr0 : Kd.C k60 w A0 l0.length l0) (hc0 : l0.length ≤ c0) (h : metrolabref26_Variance.f k l0 = some (r1, r2)) :
  Calls Tryz.prog 19 #[.slice A0 l0.length c0] w fun e w' => e = .returned (.tuple #[.string r1, .int .i64 r2]) ∧ Below w.heap.size w w' := by
 have HR0 := Aside0.mk hr0
 have HC0 := Aside0.mk hc0
 clear hr0 hc0
 have HB := Aside0.mk (Below.refl w.heap.size w)
 have H : ((metrolabref26_Check.f k l0).bind fun t254 => (if t254 = 0 then ((metrolabref26_Spread.f k l0).bind fun t255 => (some (t255, 0))) else (some ((⟨#[]⟩ : ByteArray), t254)))) = some (r1, r2) := h
 clear h
 obtain ⟨t254, A2, H⟩ := bindA H
 by_cases c3 : t254 = 0
 ·rw [if_pos c3] at H
  have c3b0 := beq_iff_eq.mpr c3
  have c3b1 := bne_eq_false_iff_eq.mpr c3
  clear c3
  obtain ⟨t255, A4, H⟩ := bindA H
  simp only [Option.some.injEq, Prod.mk.injEq] at H
  obtain ⟨rfl, rfl⟩ := H
  go_enter Tryz.func19, Tryz.ntmps19
  go_wp2_with (first | ((with_reducible refine gate_callee (f := 21) rfl ?_); refine goesL_ (some 6) rfl rfl Tryz.func21 (by kernel_rfl) rfl #[.slice A0 l0.length c0] rfl z9_ ?_; (with_reducible refine (metrolabref26_Check.calls k _ _ l0 t254 _ ?side1 ?side2 A2.out).mono ?_); (case side1 => repeat (first | exact HR0.out | (with_reducible refine Kd.C_alloc ?_ _) | (with_reducible refine Kd.C_drewN ?_ _) | (with_reducible refine Kd.C_drew ?_))); (case side2 => exact HC0.out); rintro e w5 ⟨rfl, hb⟩; refine ⟨_, rfl, ?_⟩; replace HB := Aside0.mk (below_step z10_ hb); clear hb) | ((with_reducible refine gate_callee (f := 47) rfl ?_); refine goesL_ (some 11) rfl rfl Tryz.func47 (by kernel_rfl) rfl #[.slice A0 l0.length c0] rfl z9_ ?_; (with_reducible refine (metrolabref26_Spread.calls k _ _ l0 t255 _ ?side1 ?side2 A4.out).mono ?_); (case side1 => repeat (first | exact (Kd.C_below HR0.out HB.out) | (with_reducible refine Kd.C_alloc ?_ _) | (with_reducible refine Kd.C_drewN ?_ _) | (with_reducible refine Kd.C_drew ?_))); (case side2 => exact HC0.out); rintro e w6 ⟨rfl, hb⟩; refine ⟨_, rfl, ?_⟩; replace HB := Aside0.mk (below_step z10_ hb); clear hb))
  go_ret2
  exact ⟨z24_, z10_⟩
 ·rw [if_neg c3] at H
  have c3b0 := beq_eq_false_iff_ne.mpr c3
  have c3b1 := bne_iff_ne.mpr c3
  simp only [Option.some.injEq, Prod.mk.injEq] at H
  obtain ⟨rfl, rfl⟩ := H
  go_enter Tryz.func19, Tryz.ntmps19
  go_wp2_with (first | ((with_reducible refine gate_callee (f := 21) rfl ?_); refine goesL_ (some 6) rfl rfl Tryz.func21 (by kernel_rfl) rfl #[.slice A0 l0.length c0] rfl z9_ ?_; (with_reducible refine (metrolabref26_Check.calls k _ _ l0 t254 _ ?side1 ?side2 A2.out).mono ?_); (case side1 => repeat (first | exact HR0.out | (with_reducible refine Kd.C_alloc ?_ _) | (with_reducible refine Kd.C_drewN ?_ _) | (with_reducible refine Kd.C_drew ?_))); (case side2 => exact HC0.out); rintro e w7 ⟨rfl, hb⟩; refine ⟨_, rfl, ?_⟩; replace HB := Aside0.mk (below_step z10_ hb); clear hb))
  go_ret2
  exact ⟨z24_, z10_⟩
end Go.Proofs.YtkdpcgmnkifbbaaGreatDoor.D
end
section
namespace Go.Proofs.YtkdpcgmnkifbbaaGreatDoor
open Go.RowKit Go.Proofs.YtkdpcgmnkifbbaaGreatDoorW.PrintWords Go.Proofs.YtkdpcgmnkifbbaaGreatDoorW.PrintMore
open D (S60 prs)
theorem prs_get (l : List S60) (i : Nat) (h : i < l.length) : D.rd_T60 l (i : Int) = l[i] := by
 unfold D.rd_T60; rw [Int.toNat_natCast, List.getD, List.getElem?_eq_getElem h]; rfl
theorem prs_at (l : List S60) (i : Nat) (h : i < l.length) : (prs l)[i]'(by rw [D.prs_len]; exact h) = (l[i].f0, l[i].f1) := by unfold prs; rw [List.getElem_map]
theorem few_l0 (l : List S60) (hl : l.length ≤ 4611686018427387904) (d i : Nat) (hd : i + d = l.length) (hi : i ≤ 13) (hall : ∀ j (h : j < l.length), j < i → l[j].f1.size ≤ 20) :
  ∃ b, Runs (fun k => D.metrolabref26_Few.l0 k l i) b ∧ (b = true → (l.length ≤ 12 ∧ ∀ x ∈ l, x.f1.size ≤ 20) ∨ l.length > 4096) := by
 have hend : i = l.length ∨ i = 13 → ∃ b, Runs (fun k => D.metrolabref26_Few.j1 k l i false) b ∧ (b = true → (l.length ≤ 12 ∧ ∀ x ∈ l, x.f1.size ≤ 20) ∨ l.length > 4096) := by
  intro he
  by_cases h12 : l.length ≤ 12
  ·refine ⟨true, Runs.succ (Runs.pure _) fun k => ?_, fun _ => .inl ⟨h12, fun x hx => ?_⟩⟩
   ·rw [D.metrolabref26_Few.j1, if_neg (by decide), if_pos (by omega)]
   ·obtain ⟨j, hj, rfl⟩ := List.getElem_of_mem hx
    exact hall j hj (by omega)
  ·by_cases h4 : l.length > 4096
   ·refine ⟨decide ((l.length : Int) < 8192), Runs.succ (Runs.pure _) fun k => ?_, fun _ => .inr h4⟩
    rw [D.metrolabref26_Few.j1, if_neg (by decide), if_neg (by omega), if_pos (by omega)]
   ·refine ⟨false, Runs.succ (Runs.pure _) fun k => ?_, fun h => by cases h⟩
    rw [D.metrolabref26_Few.j1, if_neg (by decide), if_neg (by omega), if_neg (by omega)]
 induction d generalizing i with
 | zero =>
  obtain ⟨b, hb, hb2⟩ := hend (.inl (by omega))
  refine ⟨b, Runs.succ hb fun k => ?_, hb2⟩
  rw [D.metrolabref26_Few.l0, if_neg (by omega)]
 | succ d ih =>
  by_cases h13 : i = 13
  ·obtain ⟨b, hb, hb2⟩ := hend (.inr h13)
   refine ⟨b, Runs.succ hb fun k => ?_, hb2⟩
   rw [D.metrolabref26_Few.l0, if_pos (by omega), decide_eq_false (by omega)]
  ·have hil : i < l.length := by omega
   have hg := prs_get l i hil
   by_cases h20 : l[i].f1.size > 20
   ·refine ⟨false, Runs.succ (Runs.succ (Runs.pure _) (g := fun k => D.metrolabref26_Few.j1 k l i true) fun k => ?_) fun k => ?_, fun h => by cases h⟩
    ·rw [D.metrolabref26_Few.j1, if_pos rfl, if_pos (by omega), if_pos (by omega), hg, if_pos (by omega)]
    ·rw [D.metrolabref26_Few.l0, if_pos (by omega), decide_eq_true (by omega)]
   ·obtain ⟨b, hb, hb2⟩ := ih (i + 1) (by omega) (by omega) (fun j hj hji => by
     by_cases hje : j = i
     ·subst hje; omega
     ·exact hall j hj (by omega)) (fun he => by
     by_cases h12 : l.length ≤ 12
     ·refine ⟨true, Runs.succ (Runs.pure _) fun k => ?_, fun _ => .inl ⟨h12, fun x hx => ?_⟩⟩
      ·rw [D.metrolabref26_Few.j1, if_neg (by decide), if_pos (by omega)]
      ·obtain ⟨j, hj, rfl⟩ := List.getElem_of_mem hx
       by_cases hje : j = i
       ·subst hje; omega
       ·exact hall j hj (by omega)
     ·by_cases h4 : l.length > 4096
      ·refine ⟨decide ((l.length : Int) < 8192), Runs.succ (Runs.pure _) fun k => ?_, fun _ => .inr h4⟩
       rw [D.metrolabref26_Few.j1, if_neg (by decide), if_neg (by omega), if_pos (by omega)]
      ·refine ⟨false, Runs.succ (Runs.pure _) fun k => ?_, fun h => by cases h⟩
       rw [D.metrolabref26_Few.j1, if_neg (by decide), if_neg (by omega), if_neg (by omega)])
    refine ⟨b, Runs.succ (Runs.succ hb (g := fun k => D.metrolabref26_Few.j1 k l i true) fun k => ?_) fun k => ?_, hb2⟩
    ·rw [D.metrolabref26_Few.j1, if_pos rfl, if_pos (by omega), if_pos (by omega), hg, if_neg (by omega), IntWalk.wrap64_in _ (by omega)]; rfl
    ·rw [D.metrolabref26_Few.l0, if_pos (by omega), decide_eq_true (by omega)]
theorem few_f (l : List S60) (hl : l.length ≤ 4611686018427387904) : ∃ b, Runs (fun k => D.metrolabref26_Few.f k l) b ∧ (b = true → (l.length ≤ 12 ∧ ∀ x ∈ l, x.f1.size ≤ 20) ∨ l.length > 4096) :=
 few_l0 l hl l.length 0 (by omega) (by omega) (fun _ _ h => by omega)
def szs (l : List S60) : Prop := ∀ x ∈ l, x.f1.size ≤ 140737488351232
theorem szs_prs {l : List S60} (h : szs l) : ∀ x ∈ prs l, x.2.size ≤ 9223372036854775807 := by
 intro x hx
 obtain ⟨y, hy, rfl⟩ := List.mem_map.1 hx
 exact Nat.le_trans (h y hy) (by decide)
theorem okI_of {a : ByteArray} (h : chk a = 0) : D.okI a := ⟨chk_form h, Nat.le_trans (chk_size90 h) (by decide)⟩
theorem okI_zero : D.okI (⟨#[48]⟩ : ByteArray) := okI_of zero_ok.1
theorem order_zero {a : ByteArray} (h : chk a = 0) : D.metrolabref01_Order.f a (⟨#[48]⟩ : ByteArray) = some (cmpv (ival a) 0) := by
 unfold D.metrolabref01_Order.f
 rw [if_pos ⟨okI_of h, okI_zero⟩, zero_ok.2]
theorem value_f (n : Int) : D.metrolabref26_Value.f n = some (decide (-1048576 ≤ n ∧ n ≤ 1048576)) := by
 unfold D.metrolabref26_Value.f
 by_cases h : n ≥ -1048576
 ·rw [if_pos h]
  by_cases h2 : n ≤ 1048576
  ·rw [decide_eq_true h2, decide_eq_true ⟨h, h2⟩]
  ·rw [decide_eq_false h2, decide_eq_false (fun h3 => h2 h3.2)]
 ·rw [if_neg h, decide_eq_false (fun h3 => h h3.1)]
theorem cmpv_zero_le {u : Int} : cmpv u 0 ≤ 0 ↔ u ≤ 0 := by
 unfold cmpv
 split
 ·constructor <;> intro <;> omega
 ·split <;> constructor <;> intro <;> omega
theorem rcheck26_l0 (l : List S60) (hz : szs l) (hl : l.length ≤ 4096) (d i : Nat) (hd : i + d = l.length) :
  Runs (fun k => D.metrolabref26_Check.l0 k l i) (dckl (prevv (prs l) i) ((prs l).drop i)) := by
 have hpl := D.prs_len l
 induction d generalizing i with
 | zero =>
  rw [List.drop_of_length_le (by omega)]
  refine Runs.succ (Runs.pure _) fun k => ?_
  rw [D.metrolabref26_Check.l0, if_neg (by omega)]; rfl
 | succ d ih =>
  have hil : i < l.length := by omega
  have hg := prs_get l i hil
  have hn := ih (i + 1) (by omega)
  have hsz := hz _ (List.getElem_mem hil)
  have hx := prs_at l i hil
  have hp1 : prevv (prs l) (i + 1) = some (l[i].f0) := by
   unfold prevv
   rw [if_neg (by omega), Nat.add_sub_cancel, List.getElem?_eq_getElem (by omega), hx]; rfl
  rw [hp1] at hn
  rw [List.drop_eq_getElem_cons (by omega), dckl, hx]
  have hck : D.metrolabref01_Check.f l[i].f1 = some (chk l[i].f1) := by
   unfold D.metrolabref01_Check.f; rw [if_pos (by omega)]
  by_cases h0 : chk l[i].f1 = 0
  ·have ho := order_zero h0
   have hbad : Runs (fun k => D.metrolabref26_Check.j1 k l i true) 2 := by
    refine Runs.succ (Runs.pure _) fun k => ?_
    rw [D.metrolabref26_Check.j1, if_pos rfl]
   by_cases hneg : ival l[i].f1 ≤ 0
   ·have e : dck1 (prevv (prs l) i) (l[i].f0, l[i].f1) = 2 := by
     unfold dck1
     rw [if_neg (fun h => h h0), if_pos (.inl hneg)]
    rw [e, if_pos (by decide)]
    refine Runs.succ hbad fun k => ?_
    rw [D.metrolabref26_Check.l0, if_pos (by omega), if_pos (by omega), hg, hck, Option.bind_some, if_pos h0, ho, Option.bind_some, if_pos (cmpv_zero_le.2 hneg)]
   ·by_cases hv : -1048576 ≤ l[i].f0 ∧ l[i].f0 ≤ 1048576
    ·have e : dck1 (prevv (prs l) i) (l[i].f0, l[i].f1) = (match prevv (prs l) i with | none => 0 | some q => if l[i].f0 ≤ q then 9 else 0) := by
      unfold dck1
      rw [if_neg (fun h => h h0), if_neg (fun h => h.elim hneg (fun h => h hv))]
      cases prevv (prs l) i <;> rfl
     have hgo : Runs (fun k => D.metrolabref26_Check.j1 k l i false) (if dck1 (prevv (prs l) i) (l[i].f0, l[i].f1) ≠ 0 then dck1 (prevv (prs l) i) (l[i].f0, l[i].f1) else dckl (some l[i].f0) ((prs l).drop (i + 1))) := by
      rw [e]
      by_cases hi0 : i = 0
      ·have ep : prevv (prs l) i = none := if_pos hi0
       rw [ep]
       simp only [ne_eq, not_true_eq_false, if_false]
       refine Runs.succ hn fun k => ?_
       rw [D.metrolabref26_Check.j1, if_neg (by decide), if_neg (by omega), IntWalk.wrap64_in _ (by omega)]; rfl
      ·obtain ⟨m, rfl⟩ : ∃ m, i = m + 1 := ⟨i - 1, by omega⟩
       have hml : m < l.length := by omega
       have ep : prevv (prs l) (m + 1) = some (l[m].f0) := by
        unfold prevv
        rw [if_neg (by omega), Nat.add_sub_cancel, List.getElem?_eq_getElem (by omega), prs_at l m hml]; rfl
       have hgm := prs_get l m hml
       have w1 : wrap64 (((m + 1 : Nat) : Int) - 1) = (m : Int) := by rw [IntWalk.wrap64_in _ (by omega)]; omega
       rw [ep]
       simp only
       by_cases hle : l[m + 1].f0 ≤ l[m].f0
       ·rw [if_pos hle, if_pos (by decide)]
        refine Runs.succ (Runs.pure _) fun k => ?_
        rw [D.metrolabref26_Check.j1, if_neg (by decide), if_pos (by omega), if_pos (by omega), if_pos (by omega), w1, if_pos (by omega), if_pos (by omega), hg, hgm, if_pos hle]
       ·rw [if_neg hle, if_neg (fun h => h rfl)]
        refine Runs.succ hn fun k => ?_
        rw [D.metrolabref26_Check.j1, if_neg (by decide), if_pos (by omega), if_pos (by omega), if_pos (by omega), w1, if_pos (by omega), if_pos (by omega), hg, hgm, if_neg hle, IntWalk.wrap64_in _ (by omega)]; rfl
     refine Runs.succ hgo fun k => ?_
     rw [D.metrolabref26_Check.l0, if_pos (by omega), if_pos (by omega), hg, hck, Option.bind_some, if_pos h0, ho, Option.bind_some, if_neg (fun h => hneg (cmpv_zero_le.1 h)), value_f, Option.bind_some, decide_eq_true hv]; rfl
    ·have e : dck1 (prevv (prs l) i) (l[i].f0, l[i].f1) = 2 := by
      unfold dck1
      rw [if_neg (fun h => h h0), if_pos (.inr hv)]
     rw [e, if_pos (by decide)]
     refine Runs.succ hbad fun k => ?_
     rw [D.metrolabref26_Check.l0, if_pos (by omega), if_pos (by omega), hg, hck, Option.bind_some, if_pos h0, ho, Option.bind_some, if_neg (fun h => hneg (cmpv_zero_le.1 h)), value_f, Option.bind_some, decide_eq_false hv]; rfl
  ·have e : dck1 (prevv (prs l) i) (l[i].f0, l[i].f1) = chk l[i].f1 := if_pos h0
   rw [e, if_pos h0]
   refine Runs.succ (Runs.pure _) fun k => ?_
   rw [D.metrolabref26_Check.l0, if_pos (by omega), if_pos (by omega), hg, hck, Option.bind_some, if_neg h0]
theorem rcheck26 (l : List S60) (hz : szs l) (hl : l.length ≤ 4611686018427387904) : Runs (fun k => D.metrolabref26_Check.f k l) (dck (prs l)) := by
 unfold D.metrolabref26_Check.f dck
 rw [D.prs_len]
 by_cases h0 : l.length = 0
 ·rw [if_pos h0]; exact Runs.pos (by omega) (Runs.pure _)
 ·rw [if_neg h0]
  refine Runs.neg (by omega) ?_
  by_cases h1 : l.length > 4096
  ·rw [if_pos h1]; exact Runs.pos (by omega) (Runs.pure _)
  ·rw [if_neg h1]
   refine Runs.neg (by omega) ?_
   have h := rcheck26_l0 l hz (by omega) l.length 0 (by omega)
   exact h
end Go.Proofs.YtkdpcgmnkifbbaaGreatDoor
end
