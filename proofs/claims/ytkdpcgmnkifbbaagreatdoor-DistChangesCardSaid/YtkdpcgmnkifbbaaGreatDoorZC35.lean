/- Joined by a program of this session out of its texts, with only what the last theorem needs: Dx6. No conditions but those stated. -/
import Derived.Test.YtkdpcgmnkifbbaaGreatDoorZC07
import Derived.Test.YtkdpcgmnkifbbaaGreatDoorZC30
import Derived.Test.YtkdpcgmnkifbbaaGreatDoorZC32
import Derived.Test.YtkdpcgmnkifbbaaGreatDoorZC34
import Derived.Test.YtkdpcgmnkifbbaaGreatDoorZC29
set_option linter.unusedVariables false
set_option linter.unusedSimpArgs false
namespace Go.Proofs.YtkdpcgmnkifbbaaGreatDoorW.PrintLast
end Go.Proofs.YtkdpcgmnkifbbaaGreatDoorW.PrintLast
namespace Go.Proofs.YtkdpcgmnkifbbaaGreatDoorW.PrintMore
end Go.Proofs.YtkdpcgmnkifbbaaGreatDoorW.PrintMore
namespace Go.Proofs.YtkdpcgmnkifbbaaGreatDoorW.PrintWords
end Go.Proofs.YtkdpcgmnkifbbaaGreatDoorW.PrintWords
namespace Go.Proofs.YtkdpcgmnkifbbaaGreatDoor.D
open Go.RowKit Go.Proofs.YtkdpcgmnkifbbaaGreatDoorW.PrintWords Go.Proofs.YtkdpcgmnkifbbaaGreatDoorW.PrintLast Go.Proofs.YtkdpcgmnkifbbaaGreatDoorW.PrintMore
attribute [local go_sem] max2_int min2_int max_two min_two max_three min_three max_four min_four
set_option linter.unusedVariables false
set_option linter.unusedSimpArgs false
def metrolablaw26_awake.f (k : Nat)  : Option (Bool) := (metrolablaw26_Sample.f).bind fun t167 => ((dist_Mean.f t167).bind fun bt170 => ((dist_Variance.f t167).bind fun bt172 => ((dist_Probability.f t167 2 3).bind fun bt174 => ((dist_Quantile.f k t167 (⟨#[52, 47, 53]⟩ : ByteArray)).bind fun bt176 => ((dist_Binomial.f k 3 1 3).bind fun bt178 => ((dist_Scale.f k t167 (-2) 10).bind fun bt182 => (if (wrap64 ((wrap64 ((wrap64 ((wrap64 ((wrap64 (bt170.2 + bt172.2)) + bt174.2)) + bt176.2)) + bt178.2)) + bt182.2)) = 0 then (if bt170.1.toList = ([57, 47, 52] : List UInt8) then (if bt172.1.toList = ([49, 57, 47, 49, 54] : List UInt8) then (if bt174.1.toList = ([49, 47, 50] : List UInt8) then (if bt176.1 = 4 then ((metrolabref26_Same.f k bt178.1 (([(⟨0, (⟨#[56]⟩ : ByteArray)⟩ : S60), (⟨1, (⟨#[49, 50]⟩ : ByteArray)⟩ : S60), (⟨2, (⟨#[54]⟩ : ByteArray)⟩ : S60), (⟨3, (⟨#[49]⟩ : ByteArray)⟩ : S60)] : List (S60)))).bind fun t189 => (if t189 = true then ((metrolabref26_Same.f k bt182.1 (([(⟨2, (⟨#[49]⟩ : ByteArray)⟩ : S60), (⟨6, (⟨#[50]⟩ : ByteArray)⟩ : S60), (⟨8, (⟨#[49]⟩ : ByteArray)⟩ : S60)] : List (S60)))).bind fun t193 => (some t193)) else (some false))) else (some false)) else (some false)) else (some false)) else (some false)) else (some false))))))))
set_option maxHeartbeats 8000000 in
set_option maxRecDepth 100000 in
theorem metrolablaw26_awake.calls (k : Nat)  (r : Bool) (hr_ : r = true) (w : World) (h : metrolablaw26_awake.f k  = some r) (HT : Aside0 (Tabs w)) :
  Calls Tryz.prog 9 #[] w fun e w' => e = .returned (.bool r) ∧ Below w.heap.size w w' := by
 subst hr_
 have hu24 := Tryz.underlying24
 have hu60 := Tryz.underlying60
 have HB := Aside0.mk (Below.refl w.heap.size w)
 have H : ((metrolablaw26_Sample.f).bind fun t167 => ((dist_Mean.f t167).bind fun bt170 => ((dist_Variance.f t167).bind fun bt172 => ((dist_Probability.f t167 2 3).bind fun bt174 => ((dist_Quantile.f k t167 (⟨#[52, 47, 53]⟩ : ByteArray)).bind fun bt176 => ((dist_Binomial.f k 3 1 3).bind fun bt178 => ((dist_Scale.f k t167 (-2) 10).bind fun bt182 => (if (wrap64 ((wrap64 ((wrap64 ((wrap64 ((wrap64 (bt170.2 + bt172.2)) + bt174.2)) + bt176.2)) + bt178.2)) + bt182.2)) = 0 then (if bt170.1.toList = ([57, 47, 52] : List UInt8) then (if bt172.1.toList = ([49, 57, 47, 49, 54] : List UInt8) then (if bt174.1.toList = ([49, 47, 50] : List UInt8) then (if bt176.1 = 4 then ((metrolabref26_Same.f k bt178.1 (([(⟨0, (⟨#[56]⟩ : ByteArray)⟩ : S60), (⟨1, (⟨#[49, 50]⟩ : ByteArray)⟩ : S60), (⟨2, (⟨#[54]⟩ : ByteArray)⟩ : S60), (⟨3, (⟨#[49]⟩ : ByteArray)⟩ : S60)] : List (S60)))).bind fun t189 => (if t189 = true then ((metrolabref26_Same.f k bt182.1 (([(⟨2, (⟨#[49]⟩ : ByteArray)⟩ : S60), (⟨6, (⟨#[50]⟩ : ByteArray)⟩ : S60), (⟨8, (⟨#[49]⟩ : ByteArray)⟩ : S60)] : List (S60)))).bind fun t193 => (some t193)) else (some false))) else (some false)) else (some false)) else (some false)) else (some false)) else (some false))))))))) = some true := h
 clear h
 obtain ⟨t167, A1, H⟩ := bindA H
 obtain ⟨⟨t170, t171⟩, A2, H⟩ := bindA H
 dsimp only at H
 obtain ⟨⟨t172, t173⟩, A3, H⟩ := bindA H
 dsimp only at H
 obtain ⟨⟨t174, t175⟩, A4, H⟩ := bindA H
 dsimp only at H
 obtain ⟨⟨t176, t177⟩, A5, H⟩ := bindA H
 dsimp only at H
 obtain ⟨⟨t178, t179⟩, A6, H⟩ := bindA H
 dsimp only at H
 obtain ⟨⟨t182, t183⟩, A7, H⟩ := bindA H
 dsimp only at H
 by_cases c8 : (wrap64 ((wrap64 ((wrap64 ((wrap64 ((wrap64 (t171 + t173)) + t175)) + t177)) + t179)) + t183)) = 0
 ·rw [if_pos c8] at H
  have c8b0 := beq_iff_eq.mpr c8
  have c8b1 := bne_eq_false_iff_eq.mpr c8
  clear c8
  by_cases c9 : t170.toList = ([57, 47, 52] : List UInt8)
  ·rw [if_pos c9] at H
   have c9b0 := beq_iff_eq.mpr c9
   have c9b1 := bne_eq_false_iff_eq.mpr c9
   clear c9
   by_cases c10 : t172.toList = ([49, 57, 47, 49, 54] : List UInt8)
   ·rw [if_pos c10] at H
    have c10b0 := beq_iff_eq.mpr c10
    have c10b1 := bne_eq_false_iff_eq.mpr c10
    clear c10
    by_cases c11 : t174.toList = ([49, 47, 50] : List UInt8)
    ·rw [if_pos c11] at H
     have c11b0 := beq_iff_eq.mpr c11
     have c11b1 := bne_eq_false_iff_eq.mpr c11
     clear c11
     by_cases c12 : t176 = 4
     ·rw [if_pos c12] at H
      have c12b0 := beq_iff_eq.mpr c12
      have c12b1 := bne_eq_false_iff_eq.mpr c12
      clear c12
      obtain ⟨y186, hy186⟩ : ∃ y_ : List (S60), y_ = (([(⟨0, (⟨#[56]⟩ : ByteArray)⟩ : S60), (⟨1, (⟨#[49, 50]⟩ : ByteArray)⟩ : S60), (⟨2, (⟨#[54]⟩ : ByteArray)⟩ : S60), (⟨3, (⟨#[49]⟩ : ByteArray)⟩ : S60)] : List (S60))) := ⟨_, rfl⟩
      replace H : ((metrolabref26_Same.f k t178 y186).bind fun t189 => (if t189 = true then ((metrolabref26_Same.f k t182 (([(⟨2, (⟨#[49]⟩ : ByteArray)⟩ : S60), (⟨6, (⟨#[50]⟩ : ByteArray)⟩ : S60), (⟨8, (⟨#[49]⟩ : ByteArray)⟩ : S60)] : List (S60)))).bind fun t193 => (some t193)) else (some false))) = some true := by first | (rw [hy186]; with_reducible exact H) | (have H2_ := (Option.bind_some _ _).symm.trans H; rw [hy186]; with_reducible exact H2_) | (have H2_ := (Option.bind_some _ _).symm.trans H; with_reducible exact H2_) | with_reducible exact H | (rw [hy186]; exact H) | exact H
      have Ny186 := Aside0.mk hy186
      clear hy186
      obtain ⟨t189, A13, H⟩ := bindA H
      by_cases c14 : t189 = true
      ·subst c14
       rw [if_pos rfl] at H
       obtain ⟨y190, hy190⟩ : ∃ y_ : List (S60), y_ = (([(⟨2, (⟨#[49]⟩ : ByteArray)⟩ : S60), (⟨6, (⟨#[50]⟩ : ByteArray)⟩ : S60), (⟨8, (⟨#[49]⟩ : ByteArray)⟩ : S60)] : List (S60))) := ⟨_, rfl⟩
       replace H : ((metrolabref26_Same.f k t182 y190).bind fun t193 => (some t193)) = some true := by first | (rw [hy190]; with_reducible exact H) | (have H2_ := (Option.bind_some _ _).symm.trans H; rw [hy190]; with_reducible exact H2_) | (have H2_ := (Option.bind_some _ _).symm.trans H; with_reducible exact H2_) | with_reducible exact H | (rw [hy190]; exact H) | exact H
       have Ny190 := Aside0.mk hy190
       clear hy190
       obtain ⟨t193, A15, H⟩ := bindA H
       obtain rfl : t193 = true := Option.some.inj H
       go_enter Tryz.func9, Tryz.ntmps9
       go_wp2_with (first | ((with_reducible refine gate_callee (f := 32) rfl ?_); refine goesL_ (some 14) rfl rfl Tryz.func32 (by kernel_rfl) rfl #[] rfl z9_ ?_; (with_reducible refine (metrolablaw26_Sample.calls  t167 _ A1.out).mono ?_); rintro e w16 ⟨v168, rfl, ho0, hb⟩; refine ⟨_, rfl, ?_⟩; have n0_ := Aside0.mk (Kd.R_lower ho0 (below_size z10_)); have n1_ := Aside0.mk (below_step z10_ hb); clear HB; have HO169 := n0_; have HB := n1_; clear n0_ n1_; (try clear hb); (try clear hb2); (try clear hk); (try clear hi); (try clear ho0); obtain ⟨Ao17, co17, eo17⟩ := Kd.R_slice HO169.out; subst eo17) | ((with_reducible refine gate_callee (f := 16) rfl ?_); refine goesL_ (some 17) rfl rfl Tryz.func16 (by kernel_rfl) rfl #[.slice Ao17 t167.length co17] rfl z9_ ?_; (with_reducible refine (dist_Mean.calls _ _ t167 t170 t171 _ ?side1 ?side2 A2.out (Aside0.mk (Tabs.below HT.out z4_))).mono ?_); (case side1 => repeat (first | exact (Kd.R_reads' HO169.out).2.2 | (with_reducible refine Kd.C_alloc ?_ _) | (with_reducible refine Kd.C_drewN ?_ _) | (with_reducible refine Kd.C_drew ?_))); (case side2 => exact (Kd.R_reads' HO169.out).2.1); rintro e w18 ⟨rfl, hb⟩; refine ⟨_, rfl, ?_⟩; have n0_ := Aside0.mk (Kd.R_below z18_ hb); have n1_ := Aside0.mk (below_step z10_ hb); clear HO169; clear HB; have HO169 := n0_; have HB := n1_; clear n0_ n1_; (try clear hb); (try clear hb2); (try clear hk); (try clear hi)) | ((with_reducible refine gate_callee (f := 18) rfl ?_); refine goesL_ (some 22) rfl rfl Tryz.func18 (by kernel_rfl) rfl #[.slice Ao17 t167.length co17] rfl z9_ ?_; (with_reducible refine (dist_Variance.calls _ _ t167 t172 t173 _ ?side1 ?side2 A3.out (Aside0.mk (Tabs.below HT.out z4_))).mono ?_); (case side1 => repeat (first | exact (Kd.R_reads' HO169.out).2.2 | (with_reducible refine Kd.C_alloc ?_ _) | (with_reducible refine Kd.C_drewN ?_ _) | (with_reducible refine Kd.C_drew ?_))); (case side2 => exact (Kd.R_reads' HO169.out).2.1); rintro e w19 ⟨rfl, hb⟩; refine ⟨_, rfl, ?_⟩; have n0_ := Aside0.mk (Kd.R_below z18_ hb); have n1_ := Aside0.mk (below_step z10_ hb); clear HO169; clear HB; have HO169 := n0_; have HB := n1_; clear n0_ n1_; (try clear hb); (try clear hb2); (try clear hk); (try clear hi)) | ((with_reducible refine gate_callee (f := 10) rfl ?_); refine goesL_ (some 28) rfl rfl Tryz.func10 (by kernel_rfl) rfl #[.slice Ao17 t167.length co17, .agg #[.int .i64 2, .int .i64 3]] rfl z9_ ?_; (with_reducible refine (dist_Probability.calls _ _ t167 2 3 t174 t175 _ ?side1 ?side2 A4.out (Aside0.mk (Tabs.below HT.out z4_))).mono ?_); (case side1 => repeat (first | exact (Kd.R_reads' HO169.out).2.2 | (with_reducible refine Kd.C_alloc ?_ _) | (with_reducible refine Kd.C_drewN ?_ _) | (with_reducible refine Kd.C_drew ?_))); (case side2 => exact (Kd.R_reads' HO169.out).2.1); rintro e w20 ⟨rfl, hb⟩; refine ⟨_, rfl, ?_⟩; have n0_ := Aside0.mk (Kd.R_below z18_ hb); have n1_ := Aside0.mk (below_step z10_ hb); clear HO169; clear HB; have HO169 := n0_; have HB := n1_; clear n0_ n1_; (try clear hb); (try clear hb2); (try clear hk); (try clear hi)) | ((with_reducible refine gate_callee (f := 12) rfl ?_); refine goesL_ (some 33) rfl rfl Tryz.func12 (by kernel_rfl) rfl #[.slice Ao17 t167.length co17, .string (⟨#[52, 47, 53]⟩ : ByteArray)] rfl z9_ ?_; (with_reducible refine (dist_Quantile.calls k _ _ t167 (⟨#[52, 47, 53]⟩ : ByteArray) t176 t177 _ ?side1 ?side2 A5.out (Aside0.mk (Tabs.below HT.out z4_))).mono ?_); (case side1 => repeat (first | exact (Kd.R_reads' HO169.out).2.2 | (with_reducible refine Kd.C_alloc ?_ _) | (with_reducible refine Kd.C_drewN ?_ _) | (with_reducible refine Kd.C_drew ?_))); (case side2 => exact (Kd.R_reads' HO169.out).2.1); rintro e w21 ⟨rfl, hb⟩; refine ⟨_, rfl, ?_⟩; have n0_ := Aside0.mk (Kd.R_below z18_ hb); have n1_ := Aside0.mk (below_step z10_ hb); clear HO169; clear HB; have HO169 := n0_; have HB := n1_; clear n0_ n1_; (try clear hb); (try clear hb2); (try clear hk); (try clear hi)) | ((with_reducible refine gate_callee (f := 24) rfl ?_); refine goesL_ (some 37) rfl rfl Tryz.func24 (by kernel_rfl) rfl #[.int .i64 3, .int .i64 1, .int .i64 3] rfl z9_ ?_; (with_reducible refine (dist_Binomial.calls k 3 1 3 t178 t179 _ A6.out (Aside0.mk (Tabs.below HT.out z4_))).mono ?_); rintro e w22 ⟨v180, rfl, ho0, hb⟩; refine ⟨_, rfl, ?_⟩; have n0_ := Aside0.mk (Kd.R_elder' z18_ (Kd.R_base ho0) hb); have n1_ := Aside0.mk (Kd.R_lower (Kd.R_new' ho0 (Kd.R_lt z18_)) (below_size z10_)); have n2_ := Aside0.mk (below_step z10_ hb); clear HO169; clear HB; have HO169 := n0_; have HO181 := n1_; have HB := n2_; clear n0_ n1_ n2_; (try clear hb); (try clear hb2); (try clear hk); (try clear hi); (try clear ho0)) | ((with_reducible refine gate_callee (f := 27) rfl ?_); refine goesL_ (some 42) rfl rfl Tryz.func27 (by kernel_rfl) rfl #[.slice Ao17 t167.length co17, .int .i64 (-2), .int .i64 10] rfl z9_ ?_; (with_reducible refine (dist_Scale.calls k _ _ t167 (-2) 10 t182 t183 _ ?side1 ?side2 A7.out).mono ?_); (case side1 => repeat (first | exact (Kd.R_reads' HO169.out).2.2 | (with_reducible refine Kd.C_alloc ?_ _) | (with_reducible refine Kd.C_drewN ?_ _) | (with_reducible refine Kd.C_drew ?_))); (case side2 => exact (Kd.R_reads' HO169.out).2.1); rintro e w23 ⟨v184, rfl, ho0, hb⟩; refine ⟨_, rfl, ?_⟩; have n0_ := Aside0.mk (Kd.R_elder' z18_ (Kd.R_base ho0) hb); have n1_ := Aside0.mk (Kd.R_elder' z19_ (Kd.R_base ho0) hb); have n2_ := Aside0.mk (Kd.R_lower (Kd.R_new' (Kd.R_new' ho0 (Kd.R_lt z18_)) (Kd.R_lt z19_)) (below_size z10_)); have n3_ := Aside0.mk (below_step z10_ hb); clear HO169; clear HO181; clear HB; have HO169 := n0_; have HO181 := n1_; have HO185 := n2_; have HB := n3_; clear n0_ n1_ n2_ n3_; (try clear hb); (try clear hb2); (try clear hk); (try clear hi); (try clear ho0)) | ((with_reducible refine gate_dst (N := 79) rfl ?_); (try (refine gate_guard (by rfl) ?_; dsimp only)); refine Kd.R_lit k60 _ 60 ?hg (N := 79) ?hd (xs := ([(⟨0, (⟨#[56]⟩ : ByteArray)⟩ : S60), (⟨1, (⟨#[49, 50]⟩ : ByteArray)⟩ : S60), (⟨2, (⟨#[54]⟩ : ByteArray)⟩ : S60), (⟨3, (⟨#[49]⟩ : ByteArray)⟩ : S60)] : List (S60))) (inner := [.int .i64 0, .string (⟨#[56]⟩ : ByteArray), .int .i64 1, .string (⟨#[49, 50]⟩ : ByteArray), .int .i64 2, .string (⟨#[54]⟩ : ByteArray), .int .i64 3, .string (⟨#[49]⟩ : ByteArray)]) (ok := fun _ => True) (okp := fun _ => True) ?hr ?hp (fun _ hk => hk) trivial (Below.refl _ _) (Nat.le_refl _) (by simp) ?_; (case hd => rfl); (case hg => rfl); (case hr => first | (go_simp; done) | (go_simp; rfl)); (case hp => exact (Reps.c2 (show Kd.M k60 _ _ _ (⟨0, (⟨#[56]⟩ : ByteArray)⟩ : S60) [.int .i64 0, .string (⟨#[56]⟩ : ByteArray)] from (k60_mkM _ _ _ (⟨0, (⟨#[56]⟩ : ByteArray)⟩ : S60) )) (Reps.c2 (show Kd.M k60 _ _ _ (⟨1, (⟨#[49, 50]⟩ : ByteArray)⟩ : S60) [.int .i64 1, .string (⟨#[49, 50]⟩ : ByteArray)] from (k60_mkM _ _ _ (⟨1, (⟨#[49, 50]⟩ : ByteArray)⟩ : S60) )) (Reps.c2 (show Kd.M k60 _ _ _ (⟨2, (⟨#[54]⟩ : ByteArray)⟩ : S60) [.int .i64 2, .string (⟨#[54]⟩ : ByteArray)] from (k60_mkM _ _ _ (⟨2, (⟨#[54]⟩ : ByteArray)⟩ : S60) )) (Reps.c2 (show Kd.M k60 _ _ _ (⟨3, (⟨#[49]⟩ : ByteArray)⟩ : S60) [.int .i64 3, .string (⟨#[49]⟩ : ByteArray)] from (k60_mkM _ _ _ (⟨3, (⟨#[49]⟩ : ByteArray)⟩ : S60) )) (Reps.none _ _)))))); intro v187 w24 ho25 hb hg_ hnew_; clear hg_ hnew_; (first | rw [← Ny186.out] at ho25 | (simp only [Int.reduceToNat] at ho25; rw [← Ny186.out] at ho25)); have n0_ := Aside0.mk (Kd.R_elder' z18_ (Kd.R_base ho25) hb); have n1_ := Aside0.mk (Kd.R_elder' z19_ (Kd.R_base ho25) hb); have n2_ := Aside0.mk (Kd.R_elder' (by (with_reducible repeat (first | apply Kd.R_alloc | apply Kd.R_drewN | apply Kd.R_drew)); exact HO185.out) (Kd.R_base ho25) hb); have n3_ := Aside0.mk (Kd.R_lower (Kd.R_new' (Kd.R_new' (Kd.R_new' ho25 (Kd.R_lt z18_)) (Kd.R_lt z19_)) (Kd.R_lt (by (with_reducible repeat (first | apply Kd.R_alloc | apply Kd.R_drewN | apply Kd.R_drew)); exact HO185.out))) (below_size z10_)); have n4_ := Aside0.mk (below_step z10_ hb); clear HO169; clear HO181; clear HO185; clear HB; have HO169 := n0_; have HO181 := n1_; have HO185 := n2_; have HO188 := n3_; have HB := n4_; clear n0_ n1_ n2_ n3_ n4_; clear hb ho25; obtain ⟨Ao26, co26, eo26⟩ := Kd.R_slice HO181.out; subst eo26; obtain ⟨Ao27, co27, eo27⟩ := Kd.R_slice HO188.out; subst eo27) | (go_at_call 26; (with_reducible refine (metrolabref26_Same.calls k _ _ t178 _ _ y186 true _ ?side1 ?side2 ?side3 ?side4 A13.out).mono ?_); (case side1 => repeat (first | exact (Kd.R_reads' HO181.out).2.2 | (with_reducible refine Kd.C_alloc ?_ _) | (with_reducible refine Kd.C_drewN ?_ _) | (with_reducible refine Kd.C_drew ?_))); (case side2 => exact (Kd.R_reads' HO181.out).2.1); (case side3 => repeat (first | exact (Kd.R_reads' HO188.out).2.2 | (with_reducible refine Kd.C_alloc ?_ _) | (with_reducible refine Kd.C_drewN ?_ _) | (with_reducible refine Kd.C_drew ?_))); (case side4 => exact (Kd.R_reads' HO188.out).2.1); rintro e w' ⟨rfl, ⟨nd, rfl⟩⟩) | ((with_reducible refine gate_dst (N := 87) rfl ?_); (try (refine gate_guard (by rfl) ?_; dsimp only)); refine Kd.R_lit k60 _ 60 ?hg (N := 87) ?hd (xs := ([(⟨2, (⟨#[49]⟩ : ByteArray)⟩ : S60), (⟨6, (⟨#[50]⟩ : ByteArray)⟩ : S60), (⟨8, (⟨#[49]⟩ : ByteArray)⟩ : S60)] : List (S60))) (inner := [.int .i64 2, .string (⟨#[49]⟩ : ByteArray), .int .i64 6, .string (⟨#[50]⟩ : ByteArray), .int .i64 8, .string (⟨#[49]⟩ : ByteArray)]) (ok := fun _ => True) (okp := fun _ => True) ?hr ?hp (fun _ hk => hk) trivial (Below.refl _ _) (Nat.le_refl _) (by simp) ?_; (case hd => rfl); (case hg => rfl); (case hr => first | (go_simp; done) | (go_simp; rfl)); (case hp => exact (Reps.c2 (show Kd.M k60 _ _ _ (⟨2, (⟨#[49]⟩ : ByteArray)⟩ : S60) [.int .i64 2, .string (⟨#[49]⟩ : ByteArray)] from (k60_mkM _ _ _ (⟨2, (⟨#[49]⟩ : ByteArray)⟩ : S60) )) (Reps.c2 (show Kd.M k60 _ _ _ (⟨6, (⟨#[50]⟩ : ByteArray)⟩ : S60) [.int .i64 6, .string (⟨#[50]⟩ : ByteArray)] from (k60_mkM _ _ _ (⟨6, (⟨#[50]⟩ : ByteArray)⟩ : S60) )) (Reps.c2 (show Kd.M k60 _ _ _ (⟨8, (⟨#[49]⟩ : ByteArray)⟩ : S60) [.int .i64 8, .string (⟨#[49]⟩ : ByteArray)] from (k60_mkM _ _ _ (⟨8, (⟨#[49]⟩ : ByteArray)⟩ : S60) )) (Reps.none _ _))))); intro v191 w28 ho29 hb hg_ hnew_; clear hg_ hnew_; (first | rw [← Ny190.out] at ho29 | (simp only [Int.reduceToNat] at ho29; rw [← Ny190.out] at ho29)); have n0_ := Aside0.mk (Kd.R_elder' z18_ (Kd.R_base ho29) hb); have n1_ := Aside0.mk (Kd.R_elder' z19_ (Kd.R_base ho29) hb); have n2_ := Aside0.mk (Kd.R_elder' (by (with_reducible repeat (first | apply Kd.R_alloc | apply Kd.R_drewN | apply Kd.R_drew)); exact HO185.out) (Kd.R_base ho29) hb); have n3_ := Aside0.mk (Kd.R_elder' (by (with_reducible repeat (first | apply Kd.R_alloc | apply Kd.R_drewN | apply Kd.R_drew)); exact HO188.out) (Kd.R_base ho29) hb); have n4_ := Aside0.mk (Kd.R_lower (Kd.R_new' (Kd.R_new' (Kd.R_new' (Kd.R_new' ho29 (Kd.R_lt z18_)) (Kd.R_lt z19_)) (Kd.R_lt (by (with_reducible repeat (first | apply Kd.R_alloc | apply Kd.R_drewN | apply Kd.R_drew)); exact HO185.out))) (Kd.R_lt (by (with_reducible repeat (first | apply Kd.R_alloc | apply Kd.R_drewN | apply Kd.R_drew)); exact HO188.out))) (below_size z10_)); have n5_ := Aside0.mk (below_step z10_ hb); clear HO169; clear HO181; clear HO185; clear HO188; clear HB; have HO169 := n0_; have HO181 := n1_; have HO185 := n2_; have HO188 := n3_; have HO192 := n4_; have HB := n5_; clear n0_ n1_ n2_ n3_ n4_ n5_; clear hb ho29; obtain ⟨Ao30, co30, eo30⟩ := Kd.R_slice HO185.out; subst eo30; obtain ⟨Ao31, co31, eo31⟩ := Kd.R_slice HO192.out; subst eo31) | (go_at_call 26; (with_reducible refine (metrolabref26_Same.calls k _ _ t182 _ _ y190 true _ ?side1 ?side2 ?side3 ?side4 A15.out).mono ?_); (case side1 => repeat (first | exact (Kd.R_reads' HO185.out).2.2 | (with_reducible refine Kd.C_alloc ?_ _) | (with_reducible refine Kd.C_drewN ?_ _) | (with_reducible refine Kd.C_drew ?_))); (case side2 => exact (Kd.R_reads' HO185.out).2.1); (case side3 => repeat (first | exact (Kd.R_reads' HO192.out).2.2 | (with_reducible refine Kd.C_alloc ?_ _) | (with_reducible refine Kd.C_drewN ?_ _) | (with_reducible refine Kd.C_drew ?_))); (case side4 => exact (Kd.R_reads' HO192.out).2.1); rintro e w' ⟨rfl, ⟨nd, rfl⟩⟩))
       go_ret
       exact ⟨z24_, z10_⟩
      ·replace c14 := Bool.eq_false_iff.mpr c14
       subst c14
       rw [if_neg (show ¬ (false = true) by decide)] at H
       cases H
     ·rw [if_neg c12] at H
      have c12b0 := beq_eq_false_iff_ne.mpr c12
      have c12b1 := bne_iff_ne.mpr c12
      cases H
    ·rw [if_neg c11] at H
     have c11b0 := beq_eq_false_iff_ne.mpr c11
     have c11b1 := bne_iff_ne.mpr c11
     cases H
   ·rw [if_neg c10] at H
    have c10b0 := beq_eq_false_iff_ne.mpr c10
    have c10b1 := bne_iff_ne.mpr c10
    cases H
  ·rw [if_neg c9] at H
   have c9b0 := beq_eq_false_iff_ne.mpr c9
   have c9b1 := bne_iff_ne.mpr c9
   cases H
 ·rw [if_neg c8] at H
  have c8b0 := beq_eq_false_iff_ne.mpr c8
  have c8b1 := bne_iff_ne.mpr c8
  cases H
def metrolabref26_Value.f (a0 : Int) : Option (Bool) := if a0 ≥ (-1048576) then (some (decide (a0 ≤ 1048576))) else (some false)
set_option maxHeartbeats 8000000 in
set_option maxRecDepth 100000 in
theorem metrolabref26_Value.calls (a0 : Int) (r : Bool) (w : World) (h : metrolabref26_Value.f a0 = some r) :
  Calls Tryz.prog 53 #[.int .i64 a0] w fun e w' => e = .returned (.bool r) ∧ Drawn0 w w' := by
 have H : (if a0 ≥ (-1048576) then (some (decide (a0 ≤ 1048576))) else (some false)) = some r := h
 clear h
 by_cases c2 : a0 ≥ (-1048576)
 ·rw [if_pos c2] at H
  have c2b0 : decide ((-1048576) ≤ a0) = true := decide_eq_true c2
  clear c2
  obtain rfl := Option.some.inj H
  go_enter Tryz.func53, Tryz.ntmps53
  go_wp2
  go_ret
  exact ⟨by first | rfl | (simp; done) | (simp [*]; done), by repeat (first | exact Drawn0.refl _ | apply Drawn0.step)⟩
 ·rw [if_neg c2] at H
  have c2b0 : decide ((-1048576) ≤ a0) = false := decide_eq_false c2
  clear c2
  obtain rfl := Option.some.inj H
  go_enter Tryz.func53, Tryz.ntmps53
  go_wp2
  go_ret
  exact ⟨by first | rfl | (simp; done) | (simp [*]; done), by repeat (first | exact Drawn0.refl _ | apply Drawn0.step)⟩
mutual
def metrolabref26_Check.l0 : Nat → List (S60) → Int → Option (Int)
 | 0, _, _ => none
 | k + 1, x0, x3 => if x3 < (x0.length : Int) then (if 0 ≤ x3 then ((metrolabref01_Check.f ((rd_T60 x0 x3).f1)).bind fun t195 => (if t195 = 0 then ((metrolabref01_Order.f ((rd_T60 x0 x3).f1) (⟨#[48]⟩ : ByteArray)).bind fun t197 => (if t197 ≤ 0 then (metrolabref26_Check.j1 k x0 x3 true) else ((metrolabref26_Value.f ((rd_T60 x0 x3).f0)).bind fun t199 => (metrolabref26_Check.j1 k x0 x3 (!t199))))) else (some t195))) else (none)) else (some 0)
def metrolabref26_Check.j1 : Nat → List (S60) → Int → Bool → Option (Int)
 | 0, _, _, _ => none
 | k + 1, x0, x3, x41 => if x41 = true then (some 2) else (if x3 > 0 then (if 0 ≤ x3 then (if x3 < (x0.length : Int) then (if 0 ≤ (wrap64 (x3 - 1)) then (if (wrap64 (x3 - 1)) < (x0.length : Int) then (if ((rd_T60 x0 x3).f0) ≤ ((rd_T60 x0 (wrap64 (x3 - 1))).f0) then (some 9) else (metrolabref26_Check.l0 k x0 (wrap64 (x3 + 1)))) else (none)) else (none)) else (none)) else (none)) else (metrolabref26_Check.l0 k x0 (wrap64 (x3 + 1))))
end
def metrolabref26_Check.f (k : Nat) (l0 : List (S60)) : Option (Int) := if (l0.length : Int) = 0 then (some 13) else (if (l0.length : Int) > 4096 then (some 5) else (metrolabref26_Check.l0 k l0 0))
set_option maxHeartbeats 8000000 in
set_option maxRecDepth 100000 in
theorem metrolabref26_Check.calls (k : Nat) (A0 : Option Addr) (c0 : Nat) (l0 : List (S60)) (r : Int) (w : World) (hr0 : Kd.C k60 w A0 l0.length l0) (hc0 : l0.length ≤ c0) (h : metrolabref26_Check.f k l0 = some r) :
  Calls Tryz.prog 21 #[.slice A0 l0.length c0] w fun e w' => e = .returned (.int .i64 r) ∧ Below w.heap.size w w' := by
 have HR0 := Aside0.mk hr0
 have HC0 := Aside0.mk hc0
 clear hr0 hc0
 have HB := Aside0.mk (Below.refl w.heap.size w)
 have H : (if (l0.length : Int) = 0 then (some 13) else (if (l0.length : Int) > 4096 then (some 5) else (metrolabref26_Check.l0 k l0 0))) = some r := h
 clear h
 by_cases c2 : (l0.length : Int) = 0
 ·rw [if_pos c2] at H
  have c2b0 := beq_iff_eq.mpr c2
  have c2b1 := bne_eq_false_iff_eq.mpr c2
  clear c2
  obtain rfl := Option.some.inj H
  go_enter Tryz.func21, Tryz.ntmps21
  go_wp2
  repeat (go_quiet (fail); try go_wp2)
  go_ret
  exact ⟨z24_, z10_⟩
 ·rw [if_neg c2] at H
  have c2b0 := beq_eq_false_iff_ne.mpr c2
  have c2b1 := bne_iff_ne.mpr c2
  have c2b2 : ¬ (l0 = []) := fun h_ => c2 (by rw [h_]; rfl)
  by_cases c3 : (l0.length : Int) > 4096
  ·rw [if_pos c3] at H
   have c3b0 : decide (4096 < (l0.length : Int)) = true := decide_eq_true c3
   have c3b1 : decide (4096 < l0.length) = true := decide_eq_true (by omega)
   clear c3
   obtain rfl := Option.some.inj H
   go_enter Tryz.func21, Tryz.ntmps21
   go_wp2
   repeat (go_quiet (fail); try go_wp2)
   go_ret
   exact ⟨z24_, z10_⟩
  ·rw [if_neg c3] at H
   have c3b0 : decide (4096 < (l0.length : Int)) = false := decide_eq_false c3
   have c3b1 : decide (4096 < l0.length) = false := decide_eq_false (by omega)
   clear c3
   have H' := Aside0.mk H
   clear H
   go_enter Tryz.func21, Tryz.ntmps21
   go_wp2
   repeat (go_quiet (fail); try go_wp2)
   go_loopg [3] k (fun kq v3 w' => ∃ (x3_1 : Int), v3 = .int .i64 x3_1 ∧ Aside0 (metrolabref26_Check.l0 kq l0 x3_1 = some r) ∧ Aside0 (kq ≤ k) ∧ Aside0 (Below w.heap.size w w'))
   case atStart => exact ⟨(0), z25_, H', ⟨Nat.le_refl _⟩, ⟨by repeat (first | (with_reducible first | exact HB.out | apply below_alloc | apply pw_below_drewN | apply below_drew1) | exact HB.out)⟩⟩
   case round =>
    clear H'
    try clear c2
    try clear c2b0
    try clear c2b1
    try clear c2b2
    try clear p2
    try clear c3
    try clear c3b0
    try clear c3b1
    obtain ⟨x3_1, rfl, HA, HK1, HB⟩ := hrel
    cases gk with
    | zero => exact absurd HA.out (by simp [metrolabref26_Check.l0])
    | succ k1 =>
     have H := HA.out
     clear HA
     simp only [metrolabref26_Check.l0] at H
     by_cases c4 : x3_1 < (l0.length : Int)
     ·rw [if_pos c4] at H
      have c4b0 : decide (x3_1 < (l0.length : Int)) = true := decide_eq_true c4
      clear c4
      by_cases c5 : 0 ≤ x3_1
      ·rw [if_pos c5] at H
       have c5b0 : decide (0 ≤ x3_1) = true := decide_eq_true c5
       clear c5
       obtain ⟨t195, A6, H⟩ := bindA H
       by_cases c7 : t195 = 0
       ·rw [if_pos c7] at H
        have c7b0 := beq_iff_eq.mpr c7
        have c7b1 := bne_eq_false_iff_eq.mpr c7
        clear c7
        have HC8 := Aside0.mk H
        clear H
        have p194 : 0 ≤ (x3_1 : Int) := of_decide_eq_true z26_
        have q194 : x3_1 < (l0.length : Int) := of_decide_eq_true z26_
        obtain ⟨ad194, e194, hx194_0, hx194_1⟩ := at_T60 HR0.out x3_1 p194 q194
        cases e194
        replace hx194_0 := (HB.out.cell (World.block_lt_of_cell? w _ hx194_0)).trans hx194_0
        replace hx194_1 := (HB.out.cell (World.block_lt_of_cell? w _ hx194_1)).trans hx194_1
        replace p194 := eq_true p194
        replace q194 := eq_true q194
        go_upto_region 11 with (first | (go_at_call 51; (with_reducible refine (metrolabref01_Check.calls ((rd_T60 l0 x3_1).f1) t195 _ A6.out).mono ?_); rintro e w9 ⟨rfl, hb⟩; replace HB := Aside0.mk (below_step z10_ hb); clear hb))
        repeat (go_quiet (first | (go_at_call 51; (with_reducible refine (metrolabref01_Check.calls ((rd_T60 l0 x3_1).f1) t195 _ A6.out).mono ?_); rintro e w9 ⟨rfl, hb⟩; replace HB := Aside0.mk (below_step z10_ hb); clear hb)); go_upto_region 11 with (first | (go_at_call 51; (with_reducible refine (metrolabref01_Check.calls ((rd_T60 l0 x3_1).f1) t195 _ A6.out).mono ?_); rintro e w9 ⟨rfl, hb⟩; replace HB := Aside0.mk (below_step z10_ hb); clear hb)))
        (try simp only [Act.put, List.setIfInBounds_toArray, List.set_cons_zero, List.set_cons_succ])
        go_cut [41] (fun v41 wc => ∃ (kq : Nat) (x41_7 : Bool), v41 = .bool x41_7 ∧ Aside0 (metrolabref26_Check.j1 kq l0 x3_1 x41_7 = some r) ∧ Aside0 (kq ≤ k1) ∧ Aside0 (Below w.heap.size w wc))
        case first =>
         have H := HC8.out
         clear HC8
         obtain ⟨t197, A10, H⟩ := bindA H
         by_cases c11 : t197 ≤ 0
         ·rw [if_pos c11] at H
          have c11b0 : decide (t197 ≤ 0) = true := decide_eq_true c11
          clear c11
          (first | rw [c11b0] | (simp only [i64_w, i32_w]; rw [c11b0]) | skip)
          have H' := Aside0.mk H
          clear H
          have p196 : 0 ≤ (x3_1 : Int) := of_decide_eq_true z26_
          have q196 : x3_1 < (l0.length : Int) := of_decide_eq_true z26_
          obtain ⟨ad196, e196, hx196_0, hx196_1⟩ := at_T60 HR0.out x3_1 p196 q196
          obtain rfl : ad194 = ad196 := (by injection e196)
          replace hx196_0 := (HB.out.cell (World.block_lt_of_cell? w _ hx196_0)).trans hx196_0
          replace hx196_1 := (HB.out.cell (World.block_lt_of_cell? w _ hx196_1)).trans hx196_1
          replace p196 := eq_true p196
          replace q196 := eq_true q196
          go_wp2_with (first | (go_at_call 52; (with_reducible refine (metrolabref01_Order.calls ((rd_T60 l0 x3_1).f1) (⟨#[48]⟩ : ByteArray) t197 _ A10.out).mono ?_); rintro e w12 ⟨rfl, hb⟩; replace HB := Aside0.mk (below_step z10_ hb); clear hb))
          repeat (go_quiet (first | (go_at_call 52; (with_reducible refine (metrolabref01_Order.calls ((rd_T60 l0 x3_1).f1) (⟨#[48]⟩ : ByteArray) t197 _ A10.out).mono ?_); rintro e w12 ⟨rfl, hb⟩; replace HB := Aside0.mk (below_step z10_ hb); clear hb)); try go_wp2_with (first | (go_at_call 52; (with_reducible refine (metrolabref01_Order.calls ((rd_T60 l0 x3_1).f1) (⟨#[48]⟩ : ByteArray) t197 _ A10.out).mono ?_); rintro e w12 ⟨rfl, hb⟩; replace HB := Aside0.mk (below_step z10_ hb); clear hb)))
          go_meet
          case rel => exact ⟨_, (true), z25_, H', ⟨by have := HK1.out; first | omega | exact Nat.le_refl _⟩, ⟨by repeat (first | (with_reducible first | exact HB.out | apply below_alloc | apply pw_below_drewN | apply below_drew1) | exact HB.out)⟩⟩
         ·rw [if_neg c11] at H
          have c11b0 : decide (t197 ≤ 0) = false := decide_eq_false c11
          clear c11
          (first | rw [c11b0] | (simp only [i64_w, i32_w]; rw [c11b0]) | skip)
          obtain ⟨t199, A13, H⟩ := bindA H
          have H' := Aside0.mk H
          clear H
          have p196 : 0 ≤ (x3_1 : Int) := of_decide_eq_true z26_
          have q196 : x3_1 < (l0.length : Int) := of_decide_eq_true z26_
          obtain ⟨ad196, e196, hx196_0, hx196_1⟩ := at_T60 HR0.out x3_1 p196 q196
          obtain rfl : ad194 = ad196 := (by injection e196)
          replace hx196_0 := (HB.out.cell (World.block_lt_of_cell? w _ hx196_0)).trans hx196_0
          replace hx196_1 := (HB.out.cell (World.block_lt_of_cell? w _ hx196_1)).trans hx196_1
          replace p196 := eq_true p196
          replace q196 := eq_true q196
          go_wp2_with (first | (go_at_call 52; (with_reducible refine (metrolabref01_Order.calls ((rd_T60 l0 x3_1).f1) (⟨#[48]⟩ : ByteArray) t197 _ A10.out).mono ?_); rintro e w14 ⟨rfl, hb⟩; replace HB := Aside0.mk (below_step z10_ hb); clear hb; have p198 : 0 ≤ (x3_1 : Int) := of_decide_eq_true z26_; have q198 : x3_1 < (l0.length : Int) := of_decide_eq_true z26_; obtain ⟨ad198, e198, hx198_0, hx198_1⟩ := at_T60 HR0.out x3_1 p198 q198; obtain rfl : ad194 = ad198 := (by injection e198); replace hx198_0 := (HB.out.cell (World.block_lt_of_cell? w _ hx198_0)).trans hx198_0; replace hx198_1 := (HB.out.cell (World.block_lt_of_cell? w _ hx198_1)).trans hx198_1; replace p198 := eq_true p198; replace q198 := eq_true q198) | (go_at_call 53; (with_reducible refine (metrolabref26_Value.calls ((rd_T60 l0 x3_1).f0) t199 _ A13.out).mono ?_); rintro e w' ⟨rfl, ⟨nd, rfl⟩⟩; (try first | exact ⟨rfl, _, World.drewN_drewN _ _ _⟩ | exact ⟨rfl, _, Eq.trans (World.drewN_drewN _ _ _) (congrArg (World.drewN _) (Nat.add_assoc _ _ _))⟩)))
          repeat (go_quiet (first | (go_at_call 52; (with_reducible refine (metrolabref01_Order.calls ((rd_T60 l0 x3_1).f1) (⟨#[48]⟩ : ByteArray) t197 _ A10.out).mono ?_); rintro e w14 ⟨rfl, hb⟩; replace HB := Aside0.mk (below_step z10_ hb); clear hb; have p198 : 0 ≤ (x3_1 : Int) := of_decide_eq_true z26_; have q198 : x3_1 < (l0.length : Int) := of_decide_eq_true z26_; obtain ⟨ad198, e198, hx198_0, hx198_1⟩ := at_T60 HR0.out x3_1 p198 q198; obtain rfl : ad194 = ad198 := (by injection e198); replace hx198_0 := (HB.out.cell (World.block_lt_of_cell? w _ hx198_0)).trans hx198_0; replace hx198_1 := (HB.out.cell (World.block_lt_of_cell? w _ hx198_1)).trans hx198_1; replace p198 := eq_true p198; replace q198 := eq_true q198) | (go_at_call 53; (with_reducible refine (metrolabref26_Value.calls ((rd_T60 l0 x3_1).f0) t199 _ A13.out).mono ?_); rintro e w' ⟨rfl, ⟨nd, rfl⟩⟩; (try first | exact ⟨rfl, _, World.drewN_drewN _ _ _⟩ | exact ⟨rfl, _, Eq.trans (World.drewN_drewN _ _ _) (congrArg (World.drewN _) (Nat.add_assoc _ _ _))⟩))); try go_wp2_with (first | (go_at_call 52; (with_reducible refine (metrolabref01_Order.calls ((rd_T60 l0 x3_1).f1) (⟨#[48]⟩ : ByteArray) t197 _ A10.out).mono ?_); rintro e w14 ⟨rfl, hb⟩; replace HB := Aside0.mk (below_step z10_ hb); clear hb; have p198 : 0 ≤ (x3_1 : Int) := of_decide_eq_true z26_; have q198 : x3_1 < (l0.length : Int) := of_decide_eq_true z26_; obtain ⟨ad198, e198, hx198_0, hx198_1⟩ := at_T60 HR0.out x3_1 p198 q198; obtain rfl : ad194 = ad198 := (by injection e198); replace hx198_0 := (HB.out.cell (World.block_lt_of_cell? w _ hx198_0)).trans hx198_0; replace hx198_1 := (HB.out.cell (World.block_lt_of_cell? w _ hx198_1)).trans hx198_1; replace p198 := eq_true p198; replace q198 := eq_true q198) | (go_at_call 53; (with_reducible refine (metrolabref26_Value.calls ((rd_T60 l0 x3_1).f0) t199 _ A13.out).mono ?_); rintro e w' ⟨rfl, ⟨nd, rfl⟩⟩; (try first | exact ⟨rfl, _, World.drewN_drewN _ _ _⟩ | exact ⟨rfl, _, Eq.trans (World.drewN_drewN _ _ _) (congrArg (World.drewN _) (Nat.add_assoc _ _ _))⟩))))
          go_meet
          case rel => exact ⟨_, (!t199), z25_, H', ⟨by have := HK1.out; first | omega | exact Nat.le_refl _⟩, ⟨by repeat (first | (with_reducible first | exact HB.out | apply below_alloc | apply pw_below_drewN | apply below_drew1) | exact HB.out)⟩⟩
        case rest =>
         clear HC8
         try clear c1
         try clear p1
         try clear q1
         try clear hx1
         try clear c2
         try clear c2b0
         try clear c2b1
         try clear c2b2
         try clear p2
         try clear c3
         try clear c3b0
         try clear c3b1
         try clear c4
         try clear c4b0
         try clear c5
         try clear c5b0
         try clear c7
         try clear c7b0
         try clear c7b1
         try clear c11
         try clear c11b0
         try clear hx194_0
         try clear hx194_1
         try clear hx196_0
         try clear hx196_1
         try clear hx198_0
         try clear hx198_1
         try clear p194
         try clear p196
         try clear p198
         try clear p2
         try clear q194
         try clear q196
         try clear q198
         obtain ⟨kq, x41_7, rfl, HA, HJ7, HB⟩ := hcut
         cases kq with
         | zero => exact absurd HA.out (by simp [metrolabref26_Check.j1])
         | succ kj7 =>
          have H := HA.out
          clear HA
          simp only [metrolabref26_Check.j1] at H
          by_cases c15 : x41_7 = true
          ·subst c15
           rw [if_pos rfl] at H
           obtain rfl := Option.some.inj H
           go_wp2
           repeat (go_quiet (fail); try go_wp2)
           go_ret
           exact ⟨z24_, z10_⟩
          ·replace c15 := Bool.eq_false_iff.mpr c15
           subst c15
           rw [if_neg (show ¬ (false = true) by decide)] at H
           by_cases c16 : x3_1 > 0
           ·rw [if_pos c16] at H
            have c16b0 : decide (0 < x3_1) = true := decide_eq_true c16
            clear c16
            by_cases c17 : 0 ≤ x3_1
            ·rw [if_pos c17] at H
             have c17b0 : decide (0 ≤ x3_1) = true := decide_eq_true c17
             clear c17
             by_cases c18 : x3_1 < (l0.length : Int)
             ·rw [if_pos c18] at H
              have c18b0 : decide (x3_1 < (l0.length : Int)) = true := decide_eq_true c18
              clear c18
              obtain ⟨ji19, hji19⟩ : ∃ j_ : Int, (wrap64 (x3_1 - 1)) = j_ := ⟨_, rfl⟩
              replace H : (if 0 ≤ (ji19) then (if (ji19) < (l0.length : Int) then (if ((rd_T60 l0 x3_1).f0) ≤ ((rd_T60 l0 (ji19)).f0) then (some 9) else (metrolabref26_Check.l0 kj7 l0 (wrap64 (x3_1 + 1)))) else (none)) else (none)) = some r := by first | (rw [hji19] at H; exact H) | (simp only [hji19] at H ⊢; exact H)
              have hji19w : (IntKind.i64.wrap (x3_1 - 1)) = ji19 := (i64_w _).trans hji19
              by_cases c20 : 0 ≤ (ji19)
              ·rw [if_pos c20] at H
               have c20b0 : decide (0 ≤ (ji19)) = true := decide_eq_true c20
               clear c20
               by_cases c21 : (ji19) < (l0.length : Int)
               ·rw [if_pos c21] at H
                have c21b0 : decide ((ji19) < (l0.length : Int)) = true := decide_eq_true c21
                clear c21
                by_cases c22 : ((rd_T60 l0 x3_1).f0) ≤ ((rd_T60 l0 (ji19)).f0)
                ·rw [if_pos c22] at H
                 have c22b0 : decide (((rd_T60 l0 x3_1).f0) ≤ ((rd_T60 l0 (ji19)).f0)) = true := decide_eq_true c22
                 clear c22
                 obtain rfl := Option.some.inj H
                 have p200 : 0 ≤ (x3_1 : Int) := of_decide_eq_true z26_
                 have q200 : x3_1 < (l0.length : Int) := of_decide_eq_true z26_
                 obtain ⟨ad200, e200, hx200_0, hx200_1⟩ := at_T60 HR0.out x3_1 p200 q200
                 obtain rfl : ad194 = ad200 := (by injection e200)
                 replace hx200_0 := (HB.out.cell (World.block_lt_of_cell? w _ hx200_0)).trans hx200_0
                 replace hx200_1 := (HB.out.cell (World.block_lt_of_cell? w _ hx200_1)).trans hx200_1
                 replace p200 := eq_true p200
                 replace q200 := eq_true q200
                 have p201 : 0 ≤ ((ji19) : Int) := of_decide_eq_true z26_
                 have q201 : (ji19) < (l0.length : Int) := of_decide_eq_true z26_
                 obtain ⟨ad201, e201, hx201_0, hx201_1⟩ := at_T60 HR0.out (ji19) p201 q201
                 obtain rfl : ad194 = ad201 := (by injection e201)
                 replace hx201_0 := (HB.out.cell (World.block_lt_of_cell? w _ hx201_0)).trans hx201_0
                 replace hx201_1 := (HB.out.cell (World.block_lt_of_cell? w _ hx201_1)).trans hx201_1
                 replace p201 := eq_true p201
                 replace q201 := eq_true q201
                 go_wp2
                 repeat (go_quiet (fail); try go_wp2)
                 go_ret
                 exact ⟨by first | rfl | (simp [errW_none, errW_some] <;> rfl) | (simp only [← hji19]; first | rfl | (simp [errW_none, errW_some] <;> rfl)) | (simp [*, errW_none, errW_some] <;> rfl), z10_⟩
                ·rw [if_neg c22] at H
                 have c22b0 : decide (((rd_T60 l0 x3_1).f0) ≤ ((rd_T60 l0 (ji19)).f0)) = false := decide_eq_false c22
                 clear c22
                 have H' := Aside0.mk H
                 clear H
                 have p200 : 0 ≤ (x3_1 : Int) := of_decide_eq_true z26_
                 have q200 : x3_1 < (l0.length : Int) := of_decide_eq_true z26_
                 obtain ⟨ad200, e200, hx200_0, hx200_1⟩ := at_T60 HR0.out x3_1 p200 q200
                 obtain rfl : ad194 = ad200 := (by injection e200)
                 replace hx200_0 := (HB.out.cell (World.block_lt_of_cell? w _ hx200_0)).trans hx200_0
                 replace hx200_1 := (HB.out.cell (World.block_lt_of_cell? w _ hx200_1)).trans hx200_1
                 replace p200 := eq_true p200
                 replace q200 := eq_true q200
                 have p201 : 0 ≤ ((ji19) : Int) := of_decide_eq_true z26_
                 have q201 : (ji19) < (l0.length : Int) := of_decide_eq_true z26_
                 obtain ⟨ad201, e201, hx201_0, hx201_1⟩ := at_T60 HR0.out (ji19) p201 q201
                 obtain rfl : ad194 = ad201 := (by injection e201)
                 replace hx201_0 := (HB.out.cell (World.block_lt_of_cell? w _ hx201_0)).trans hx201_0
                 replace hx201_1 := (HB.out.cell (World.block_lt_of_cell? w _ hx201_1)).trans hx201_1
                 replace p201 := eq_true p201
                 replace q201 := eq_true q201
                 go_wp2
                 repeat (go_quiet (fail); try go_wp2)
                 go_roundg kj7
                 case measure => have := HK1.out; have := HJ7.out; omega
                 case rel => exact ⟨(wrap64 (x3_1 + 1)), z25_, H', ⟨by have := HK1.out; have := HJ7.out; omega⟩, ⟨by repeat (first | (with_reducible first | exact HB.out | apply below_alloc | apply pw_below_drewN | apply below_drew1) | exact HB.out)⟩⟩
               ·rw [if_neg c21] at H
                exact absurd H (by simp)
              ·rw [if_neg c20] at H
               exact absurd H (by simp)
             ·rw [if_neg c18] at H
              exact absurd H (by simp)
            ·rw [if_neg c17] at H
             exact absurd H (by simp)
           ·rw [if_neg c16] at H
            have c16b0 : decide (0 < x3_1) = false := decide_eq_false c16
            clear c16
            have H' := Aside0.mk H
            clear H
            go_wp2
            repeat (go_quiet (fail); try go_wp2)
            go_roundg kj7
            case measure => have := HK1.out; have := HJ7.out; omega
            case rel => exact ⟨(wrap64 (x3_1 + 1)), z25_, H', ⟨by have := HK1.out; have := HJ7.out; omega⟩, ⟨by repeat (first | (with_reducible first | exact HB.out | apply below_alloc | apply pw_below_drewN | apply below_drew1) | exact HB.out)⟩⟩
       ·rw [if_neg c7] at H
        have c7b0 := beq_eq_false_iff_ne.mpr c7
        have c7b1 := bne_iff_ne.mpr c7
        obtain rfl := Option.some.inj H
        have p194 : 0 ≤ (x3_1 : Int) := of_decide_eq_true z26_
        have q194 : x3_1 < (l0.length : Int) := of_decide_eq_true z26_
        obtain ⟨ad194, e194, hx194_0, hx194_1⟩ := at_T60 HR0.out x3_1 p194 q194
        cases e194
        replace hx194_0 := (HB.out.cell (World.block_lt_of_cell? w _ hx194_0)).trans hx194_0
        replace hx194_1 := (HB.out.cell (World.block_lt_of_cell? w _ hx194_1)).trans hx194_1
        replace p194 := eq_true p194
        replace q194 := eq_true q194
        go_wp2_with (first | (go_at_call 51; (with_reducible refine (metrolabref01_Check.calls ((rd_T60 l0 x3_1).f1) t195 _ A6.out).mono ?_); rintro e w23 ⟨rfl, hb⟩; replace HB := Aside0.mk (below_step z10_ hb); clear hb))
        repeat (go_quiet (first | (go_at_call 51; (with_reducible refine (metrolabref01_Check.calls ((rd_T60 l0 x3_1).f1) t195 _ A6.out).mono ?_); rintro e w23 ⟨rfl, hb⟩; replace HB := Aside0.mk (below_step z10_ hb); clear hb)); try go_wp2_with (first | (go_at_call 51; (with_reducible refine (metrolabref01_Check.calls ((rd_T60 l0 x3_1).f1) t195 _ A6.out).mono ?_); rintro e w23 ⟨rfl, hb⟩; replace HB := Aside0.mk (below_step z10_ hb); clear hb)))
        go_ret
        exact ⟨z24_, z10_⟩
      ·rw [if_neg c5] at H
       exact absurd H (by simp)
     ·rw [if_neg c4] at H
      have c4b0 : decide (x3_1 < (l0.length : Int)) = false := decide_eq_false c4
      clear c4
      obtain rfl := Option.some.inj H
      go_wp2
      repeat (go_quiet (fail); try go_wp2)
      go_ret
      exact ⟨z24_, z10_⟩
end Go.Proofs.YtkdpcgmnkifbbaaGreatDoor.D
