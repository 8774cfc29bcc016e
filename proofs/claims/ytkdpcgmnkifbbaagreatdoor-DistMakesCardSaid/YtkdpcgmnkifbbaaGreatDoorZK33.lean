/- Joined by a program of this session out of its texts, with only what the last theorem needs: Dx6 Pl Pm Pn Po. No conditions but those stated. -/
import Derived.Test.YtkdpcgmnkifbbaaGreatDoorZK07
import Derived.Test.YtkdpcgmnkifbbaaGreatDoorZK28
import Derived.Test.YtkdpcgmnkifbbaaGreatDoorZK30
import Derived.Test.YtkdpcgmnkifbbaaGreatDoorZK32
import Derived.Test.YtkdpcgmnkifbbaaGreatDoorZK27
set_option linter.unusedVariables false
set_option linter.unusedSimpArgs false
namespace Go.Proofs.YtkdpcgmnkifbbaaGreatDoorW.PrintLast
end Go.Proofs.YtkdpcgmnkifbbaaGreatDoorW.PrintLast
namespace Go.Proofs.YtkdpcgmnkifbbaaGreatDoorW.PrintMore
end Go.Proofs.YtkdpcgmnkifbbaaGreatDoorW.PrintMore
namespace Go.Proofs.YtkdpcgmnkifbbaaGreatDoorW.PrintWords
end Go.Proofs.YtkdpcgmnkifbbaaGreatDoorW.PrintWords
section
namespace Go.Proofs.YtkdpcgmnkifbbaaGreatDoor.D
open Go.RowKit Go.Proofs.YtkdpcgmnkifbbaaGreatDoorW.PrintWords Go.Proofs.YtkdpcgmnkifbbaaGreatDoorW.PrintLast Go.Proofs.YtkdpcgmnkifbbaaGreatDoorW.PrintMore
attribute [local go_sem] max2_int min2_int max_two min_two max_three min_three max_four min_four
set_option linter.unusedVariables false
set_option linter.unusedSimpArgs false
def metrolablaw26_awake.f (k : Nat)  : Option (Bool) := (metrolablaw26_Sample.f).bind fun t167 => ((dist_Mean.f t167).bind fun bt170 => ((dist_Variance.f t167).bind fun bt172 => ((dist_Probability.f t167 2 3).bind fun bt174 => ((dist_Quantile.f k t167 (⟨#[52, 47, 53]⟩ : ByteArray)).bind fun bt176 => ((dist_Binomial.f k 3 1 3).bind fun bt178 => ((dist_Scale.f k t167 (-2) 10).bind fun bt182 => (if (wrap64 ((wrap64 ((wrap64 ((wrap64 ((wrap64 (bt170.2 + bt172.2)) + bt174.2)) + bt176.2)) + bt178.2)) + bt182.2)) = 0 then (if bt170.1.toList = ([57, 47, 52] : List UInt8) then (if bt172.1.toList = ([49, 57, 47, 49, 54] : List UInt8) then (if bt174.1.toList = ([49, 47, 50] : List UInt8) then (if bt176.1 = 4 then ((metrolabref26_Same.f k bt178.1 (([(⟨0, (⟨#[56]⟩ : ByteArray)⟩ : S60), (⟨1, (⟨#[49, 50]⟩ : ByteArray)⟩ : S60), (⟨2, (⟨#[54]⟩ : ByteArray)⟩ : S60), (⟨3, (⟨#[49]⟩ : ByteArray)⟩ : S60)] : List (S60)))).bind fun t189 => (if t189 = true then ((metrolabref26_Same.f k bt182.1 (([(⟨2, (⟨#[49]⟩ : ByteArray)⟩ : S60), (⟨6, (⟨#[50]⟩ : ByteArray)⟩ : S60), (⟨8, (⟨#[49]⟩ : ByteArray)⟩ : S60)] : List (S60)))).bind fun t193 => (some t193)) else (some false))) else (some false)) else (some false)) else (some false)) else (some false)) else (some false))))))))
set_option maxHeartbeats 8000000 in
set_option maxRecDepth 100000 in
theorem metrolablaw26_awake.calls (k : Nat)  (r : Bool) (hr_ : r = true) (w : World) (h : metrolablaw26_awake.f k  = some r) (HT : Aside0 (Tabs w)) :
  Calls Tryz.prog 9 #[] w fun e w' => e = .returned (.bool r) ∧ Below w.heap.size w w' := by
 subst hr_
 have hu24 := Tryz.underlying24
 have hu60 := Tryz.underlying60
 have HB := Aside0.mk (Below.refl w.heap.size w)
 have H : ((metrolablaw26_Sample.f).bind fun t167 => ((dist_Mean.f t167).bind fun bt170 => ((dist_Variance.f t167).bind fun bt172 => ((dist_Probability.f t167 2 3).bind fun bt174 => ((dist_Quantile.f k t167 (⟨#[52, 47, 53]⟩ : ByteArray)).bind fun bt176 => ((dist_Binomial.f k 3 1 3).bind fun bt178 => ((dist_Scale.f k t167 (-2) 10).bind fun bt182 => (if (wrap64 ((wrap64 ((wrap64 ((wrap64 ((wrap64 (bt170.2 + bt172.2)) + bt174.2)) + bt176.2)) + bt178.2)) + bt182.2)) = 0 then (if bt170.1.toList = ([57, 47, 52] : List UInt8) then (if bt172.1.toList = ([49, 57, 47, 49, 54] : List UInt8) then (if bt174.1.toList = ([49, 47, 50] : List UInt8) then (if bt176.1 = 4 then ((metrolabref26_Same.f k bt178.1 (([(⟨0, (⟨#[56]⟩ : ByteArray)⟩ : S60), (⟨1, (⟨#[49, 50]⟩ : ByteArray)⟩ : S60), (⟨2, (⟨#[54]⟩ : ByteArray)⟩ : S60), (⟨3, (⟨#[49]⟩ : ByteArray)⟩ : S60)] : List (S60)))).bind fun t189 => (if t189 = true then ((metrolabref26_Same.f k bt182.1 (([(⟨2, (⟨#[49]⟩ : ByteArray)⟩ : S60), (⟨6, (⟨#[50]⟩ : ByteArray)⟩ : S60), (⟨8, (⟨#[49]⟩ : ByteArray)⟩ : S60)] : List (S60)))).bind fun t193 => (some t193)) else (some false))) else (some false)) else (some false)) else (some false)) else (some false)) else (some false))))))))) = some true := h
 clear h
 obtain ⟨t167, A1, H⟩ := bindA H
 obtain ⟨⟨t170, t171⟩, A2, H⟩ := bindA H
 dsimp only at H
 obtain ⟨⟨t172, t173⟩, A3, H⟩ := bindA H
 dsimp only at H
 obtain ⟨⟨t174, t175⟩, A4, H⟩ := bindA H
 dsimp only at H
 obtain ⟨⟨t176, t177⟩, A5, H⟩ := bindA H
 dsimp only at H
 obtain ⟨⟨t178, t179⟩, A6, H⟩ := bindA H
 dsimp only at H
 obtain ⟨⟨t182, t183⟩, A7, H⟩ := bindA H
 dsimp only at H
 by_cases c8 : (wrap64 ((wrap64 ((wrap64 ((wrap64 ((wrap64 (t171 + t173)) + t175)) + t177)) + t179)) + t183)) = 0
 ·rw [if_pos c8] at H
  have c8b0 := beq_iff_eq.mpr c8
  have c8b1 := bne_eq_false_iff_eq.mpr c8
  clear c8
  by_cases c9 : t170.toList = ([57, 47, 52] : List UInt8)
  ·rw [if_pos c9] at H
   have c9b0 := beq_iff_eq.mpr c9
   have c9b1 := bne_eq_false_iff_eq.mpr c9
   clear c9
   by_cases c10 : t172.toList = ([49, 57, 47, 49, 54] : List UInt8)
   ·rw [if_pos c10] at H
    have c10b0 := beq_iff_eq.mpr c10
    have c10b1 := bne_eq_false_iff_eq.mpr c10
    clear c10
    by_cases c11 : t174.toList = ([49, 47, 50] : List UInt8)
    ·rw [if_pos c11] at H
     have c11b0 := beq_iff_eq.mpr c11
     have c11b1 := bne_eq_false_iff_eq.mpr c11
     clear c11
     by_cases c12 : t176 = 4
     ·rw [if_pos c12] at H
      have c12b0 := beq_iff_eq.mpr c12
      have c12b1 := bne_eq_false_iff_eq.mpr c12
      clear c12
      obtain ⟨y186, hy186⟩ : ∃ y_ : List (S60), y_ = (([(⟨0, (⟨#[56]⟩ : ByteArray)⟩ : S60), (⟨1, (⟨#[49, 50]⟩ : ByteArray)⟩ : S60), (⟨2, (⟨#[54]⟩ : ByteArray)⟩ : S60), (⟨3, (⟨#[49]⟩ : ByteArray)⟩ : S60)] : List (S60))) := ⟨_, rfl⟩
      replace H : ((metrolabref26_Same.f k t178 y186).bind fun t189 => (if t189 = true then ((metrolabref26_Same.f k t182 (([(⟨2, (⟨#[49]⟩ : ByteArray)⟩ : S60), (⟨6, (⟨#[50]⟩ : ByteArray)⟩ : S60), (⟨8, (⟨#[49]⟩ : ByteArray)⟩ : S60)] : List (S60)))).bind fun t193 => (some t193)) else (some false))) = some true := by first | (rw [hy186]; with_reducible exact H) | (have H2_ := (Option.bind_some _ _).symm.trans H; rw [hy186]; with_reducible exact H2_) | (have H2_ := (Option.bind_some _ _).symm.trans H; with_reducible exact H2_) | with_reducible exact H | (rw [hy186]; exact H) | exact H
      have Ny186 := Aside0.mk hy186
      clear hy186
      obtain ⟨t189, A13, H⟩ := bindA H
      by_cases c14 : t189 = true
      ·subst c14
       rw [if_pos rfl] at H
       obtain ⟨y190, hy190⟩ : ∃ y_ : List (S60), y_ = (([(⟨2, (⟨#[49]⟩ : ByteArray)⟩ : S60), (⟨6, (⟨#[50]⟩ : ByteArray)⟩ : S60), (⟨8, (⟨#[49]⟩ : ByteArray)⟩ : S60)] : List (S60))) := ⟨_, rfl⟩
       replace H : ((metrolabref26_Same.f k t182 y190).bind fun t193 => (some t193)) = some true := by first | (rw [hy190]; with_reducible exact H) | (have H2_ := (Option.bind_some _ _).symm.trans H; rw [hy190]; with_reducible exact H2_) | (have H2_ := (Option.bind_some _ _).symm.trans H; with_reducible exact H2_) | with_reducible exact H | (rw [hy190]; exact H) | exact H
       have Ny190 := Aside0.mk hy190
       clear hy190
       obtain ⟨t193, A15, H⟩ := bindA H
       obtain rfl : t193 = true := Option.some.inj H
       go_enter Tryz.func9, Tryz.ntmps9
       go_wp2_with (first | ((with_reducible refine gate_callee (f := 32) rfl ?_); refine goesL_ (some 14) rfl rfl Tryz.func32 (by kernel_rfl) rfl #[] rfl z9_ ?_; (with_reducible refine (metrolablaw26_Sample.calls  t167 _ A1.out).mono ?_); rintro e w16 ⟨v168, rfl, ho0, hb⟩; refine ⟨_, rfl, ?_⟩; have n0_ := Aside0.mk (Kd.R_lower ho0 (below_size z10_)); have n1_ := Aside0.mk (below_step z10_ hb); clear HB; have HO169 := n0_; have HB := n1_; clear n0_ n1_; (try clear hb); (try clear hb2); (try clear hk); (try clear hi); (try clear ho0); obtain ⟨Ao17, co17, eo17⟩ := Kd.R_slice HO169.out; subst eo17) | ((with_reducible refine gate_callee (f := 16) rfl ?_); refine goesL_ (some 17) rfl rfl Tryz.func16 (by kernel_rfl) rfl #[.slice Ao17 t167.length co17] rfl z9_ ?_; (with_reducible refine (dist_Mean.calls _ _ t167 t170 t171 _ ?side1 ?side2 A2.out (Aside0.mk (Tabs.below HT.out z4_))).mono ?_); (case side1 => repeat (first | exact (Kd.R_reads' HO169.out).2.2 | (with_reducible refine Kd.C_alloc ?_ _) | (with_reducible refine Kd.C_drewN ?_ _) | (with_reducible refine Kd.C_drew ?_))); (case side2 => exact (Kd.R_reads' HO169.out).2.1); rintro e w18 ⟨rfl, hb⟩; refine ⟨_, rfl, ?_⟩; have n0_ := Aside0.mk (Kd.R_below z18_ hb); have n1_ := Aside0.mk (below_step z10_ hb); clear HO169; clear HB; have HO169 := n0_; have HB := n1_; clear n0_ n1_; (try clear hb); (try clear hb2); (try clear hk); (try clear hi)) | ((with_reducible refine gate_callee (f := 18) rfl ?_); refine goesL_ (some 22) rfl rfl Tryz.func18 (by kernel_rfl) rfl #[.slice Ao17 t167.length co17] rfl z9_ ?_; (with_reducible refine (dist_Variance.calls _ _ t167 t172 t173 _ ?side1 ?side2 A3.out (Aside0.mk (Tabs.below HT.out z4_))).mono ?_); (case side1 => repeat (first | exact (Kd.R_reads' HO169.out).2.2 | (with_reducible refine Kd.C_alloc ?_ _) | (with_reducible refine Kd.C_drewN ?_ _) | (with_reducible refine Kd.C_drew ?_))); (case side2 => exact (Kd.R_reads' HO169.out).2.1); rintro e w19 ⟨rfl, hb⟩; refine ⟨_, rfl, ?_⟩; have n0_ := Aside0.mk (Kd.R_below z18_ hb); have n1_ := Aside0.mk (below_step z10_ hb); clear HO169; clear HB; have HO169 := n0_; have HB := n1_; clear n0_ n1_; (try clear hb); (try clear hb2); (try clear hk); (try clear hi)) | ((with_reducible refine gate_callee (f := 10) rfl ?_); refine goesL_ (some 28) rfl rfl Tryz.func10 (by kernel_rfl) rfl #[.slice Ao17 t167.length co17, .agg #[.int .i64 2, .int .i64 3]] rfl z9_ ?_; (with_reducible refine (dist_Probability.calls _ _ t167 2 3 t174 t175 _ ?side1 ?side2 A4.out (Aside0.mk (Tabs.below HT.out z4_))).mono ?_); (case side1 => repeat (first | exact (Kd.R_reads' HO169.out).2.2 | (with_reducible refine Kd.C_alloc ?_ _) | (with_reducible refine Kd.C_drewN ?_ _) | (with_reducible refine Kd.C_drew ?_))); (case side2 => exact (Kd.R_reads' HO169.out).2.1); rintro e w20 ⟨rfl, hb⟩; refine ⟨_, rfl, ?_⟩; have n0_ := Aside0.mk (Kd.R_below z18_ hb); have n1_ := Aside0.mk (below_step z10_ hb); clear HO169; clear HB; have HO169 := n0_; have HB := n1_; clear n0_ n1_; (try clear hb); (try clear hb2); (try clear hk); (try clear hi)) | ((with_reducible refine gate_callee (f := 12) rfl ?_); refine goesL_ (some 33) rfl rfl Tryz.func12 (by kernel_rfl) rfl #[.slice Ao17 t167.length co17, .string (⟨#[52, 47, 53]⟩ : ByteArray)] rfl z9_ ?_; (with_reducible refine (dist_Quantile.calls k _ _ t167 (⟨#[52, 47, 53]⟩ : ByteArray) t176 t177 _ ?side1 ?side2 A5.out (Aside0.mk (Tabs.below HT.out z4_))).mono ?_); (case side1 => repeat (first | exact (Kd.R_reads' HO169.out).2.2 | (with_reducible refine Kd.C_alloc ?_ _) | (with_reducible refine Kd.C_drewN ?_ _) | (with_reducible refine Kd.C_drew ?_))); (case side2 => exact (Kd.R_reads' HO169.out).2.1); rintro e w21 ⟨rfl, hb⟩; refine ⟨_, rfl, ?_⟩; have n0_ := Aside0.mk (Kd.R_below z18_ hb); have n1_ := Aside0.mk (below_step z10_ hb); clear HO169; clear HB; have HO169 := n0_; have HB := n1_; clear n0_ n1_; (try clear hb); (try clear hb2); (try clear hk); (try clear hi)) | ((with_reducible refine gate_callee (f := 24) rfl ?_); refine goesL_ (some 37) rfl rfl Tryz.func24 (by kernel_rfl) rfl #[.int .i64 3, .int .i64 1, .int .i64 3] rfl z9_ ?_; (with_reducible refine (dist_Binomial.calls k 3 1 3 t178 t179 _ A6.out (Aside0.mk (Tabs.below HT.out z4_))).mono ?_); rintro e w22 ⟨v180, rfl, ho0, hb⟩; refine ⟨_, rfl, ?_⟩; have n0_ := Aside0.mk (Kd.R_elder' z18_ (Kd.R_base ho0) hb); have n1_ := Aside0.mk (Kd.R_lower (Kd.R_new' ho0 (Kd.R_lt z18_)) (below_size z10_)); have n2_ := Aside0.mk (below_step z10_ hb); clear HO169; clear HB; have HO169 := n0_; have HO181 := n1_; have HB := n2_; clear n0_ n1_ n2_; (try clear hb); (try clear hb2); (try clear hk); (try clear hi); (try clear ho0)) | ((with_reducible refine gate_callee (f := 27) rfl ?_); refine goesL_ (some 42) rfl rfl Tryz.func27 (by kernel_rfl) rfl #[.slice Ao17 t167.length co17, .int .i64 (-2), .int .i64 10] rfl z9_ ?_; (with_reducible refine (dist_Scale.calls k _ _ t167 (-2) 10 t182 t183 _ ?side1 ?side2 A7.out).mono ?_); (case side1 => repeat (first | exact (Kd.R_reads' HO169.out).2.2 | (with_reducible refine Kd.C_alloc ?_ _) | (with_reducible refine Kd.C_drewN ?_ _) | (with_reducible refine Kd.C_drew ?_))); (case side2 => exact (Kd.R_reads' HO169.out).2.1); rintro e w23 ⟨v184, rfl, ho0, hb⟩; refine ⟨_, rfl, ?_⟩; have n0_ := Aside0.mk (Kd.R_elder' z18_ (Kd.R_base ho0) hb); have n1_ := Aside0.mk (Kd.R_elder' z19_ (Kd.R_base ho0) hb); have n2_ := Aside0.mk (Kd.R_lower (Kd.R_new' (Kd.R_new' ho0 (Kd.R_lt z18_)) (Kd.R_lt z19_)) (below_size z10_)); have n3_ := Aside0.mk (below_step z10_ hb); clear HO169; clear HO181; clear HB; have HO169 := n0_; have HO181 := n1_; have HO185 := n2_; have HB := n3_; clear n0_ n1_ n2_ n3_; (try clear hb); (try clear hb2); (try clear hk); (try clear hi); (try clear ho0)) | ((with_reducible refine gate_dst (N := 79) rfl ?_); (try (refine gate_guard (by rfl) ?_; dsimp only)); refine Kd.R_lit k60 _ 60 ?hg (N := 79) ?hd (xs := ([(⟨0, (⟨#[56]⟩ : ByteArray)⟩ : S60), (⟨1, (⟨#[49, 50]⟩ : ByteArray)⟩ : S60), (⟨2, (⟨#[54]⟩ : ByteArray)⟩ : S60), (⟨3, (⟨#[49]⟩ : ByteArray)⟩ : S60)] : List (S60))) (inner := [.int .i64 0, .string (⟨#[56]⟩ : ByteArray), .int .i64 1, .string (⟨#[49, 50]⟩ : ByteArray), .int .i64 2, .string (⟨#[54]⟩ : ByteArray), .int .i64 3, .string (⟨#[49]⟩ : ByteArray)]) (ok := fun _ => True) (okp := fun _ => True) ?hr ?hp (fun _ hk => hk) trivial (Below.refl _ _) (Nat.le_refl _) (by simp) ?_; (case hd => rfl); (case hg => rfl); (case hr => first | (go_simp; done) | (go_simp; rfl)); (case hp => exact (Reps.c2 (show Kd.M k60 _ _ _ (⟨0, (⟨#[56]⟩ : ByteArray)⟩ : S60) [.int .i64 0, .string (⟨#[56]⟩ : ByteArray)] from (k60_mkM _ _ _ (⟨0, (⟨#[56]⟩ : ByteArray)⟩ : S60) )) (Reps.c2 (show Kd.M k60 _ _ _ (⟨1, (⟨#[49, 50]⟩ : ByteArray)⟩ : S60) [.int .i64 1, .string (⟨#[49, 50]⟩ : ByteArray)] from (k60_mkM _ _ _ (⟨1, (⟨#[49, 50]⟩ : ByteArray)⟩ : S60) )) (Reps.c2 (show Kd.M k60 _ _ _ (⟨2, (⟨#[54]⟩ : ByteArray)⟩ : S60) [.int .i64 2, .string (⟨#[54]⟩ : ByteArray)] from (k60_mkM _ _ _ (⟨2, (⟨#[54]⟩ : ByteArray)⟩ : S60) )) (Reps.c2 (show Kd.M k60 _ _ _ (⟨3, (⟨#[49]⟩ : ByteArray)⟩ : S60) [.int .i64 3, .string (⟨#[49]⟩ : ByteArray)] from (k60_mkM _ _ _ (⟨3, (⟨#[49]⟩ : ByteArray)⟩ : S60) )) (Reps.none _ _)))))); intro v187 w24 ho25 hb hg_ hnew_; clear hg_ hnew_; (first | rw [← Ny186.out] at ho25 | (simp only [Int.reduceToNat] at ho25; rw [← Ny186.out] at ho25)); have n0_ := Aside0.mk (Kd.R_elder' z18_ (Kd.R_base ho25) hb); have n1_ := Aside0.mk (Kd.R_elder' z19_ (Kd.R_base ho25) hb); have n2_ := Aside0.mk (Kd.R_elder' (by (with_reducible repeat (first | apply Kd.R_alloc | apply Kd.R_drewN | apply Kd.R_drew)); exact HO185.out) (Kd.R_base ho25) hb); have n3_ := Aside0.mk (Kd.R_lower (Kd.R_new' (Kd.R_new' (Kd.R_new' ho25 (Kd.R_lt z18_)) (Kd.R_lt z19_)) (Kd.R_lt (by (with_reducible repeat (first | apply Kd.R_alloc | apply Kd.R_drewN | apply Kd.R_drew)); exact HO185.out))) (below_size z10_)); have n4_ := Aside0.mk (below_step z10_ hb); clear HO169; clear HO181; clear HO185; clear HB; have HO169 := n0_; have HO181 := n1_; have HO185 := n2_; have HO188 := n3_; have HB := n4_; clear n0_ n1_ n2_ n3_ n4_; clear hb ho25; obtain ⟨Ao26, co26, eo26⟩ := Kd.R_slice HO181.out; subst eo26; obtain ⟨Ao27, co27, eo27⟩ := Kd.R_slice HO188.out; subst eo27) | (go_at_call 26; (with_reducible refine (metrolabref26_Same.calls k _ _ t178 _ _ y186 true _ ?side1 ?side2 ?side3 ?side4 A13.out).mono ?_); (case side1 => repeat (first | exact (Kd.R_reads' HO181.out).2.2 | (with_reducible refine Kd.C_alloc ?_ _) | (with_reducible refine Kd.C_drewN ?_ _) | (with_reducible refine Kd.C_drew ?_))); (case side2 => exact (Kd.R_reads' HO181.out).2.1); (case side3 => repeat (first | exact (Kd.R_reads' HO188.out).2.2 | (with_reducible refine Kd.C_alloc ?_ _) | (with_reducible refine Kd.C_drewN ?_ _) | (with_reducible refine Kd.C_drew ?_))); (case side4 => exact (Kd.R_reads' HO188.out).2.1); rintro e w' ⟨rfl, ⟨nd, rfl⟩⟩) | ((with_reducible refine gate_dst (N := 87) rfl ?_); (try (refine gate_guard (by rfl) ?_; dsimp only)); refine Kd.R_lit k60 _ 60 ?hg (N := 87) ?hd (xs := ([(⟨2, (⟨#[49]⟩ : ByteArray)⟩ : S60), (⟨6, (⟨#[50]⟩ : ByteArray)⟩ : S60), (⟨8, (⟨#[49]⟩ : ByteArray)⟩ : S60)] : List (S60))) (inner := [.int .i64 2, .string (⟨#[49]⟩ : ByteArray), .int .i64 6, .string (⟨#[50]⟩ : ByteArray), .int .i64 8, .string (⟨#[49]⟩ : ByteArray)]) (ok := fun _ => True) (okp := fun _ => True) ?hr ?hp (fun _ hk => hk) trivial (Below.refl _ _) (Nat.le_refl _) (by simp) ?_; (case hd => rfl); (case hg => rfl); (case hr => first | (go_simp; done) | (go_simp; rfl)); (case hp => exact (Reps.c2 (show Kd.M k60 _ _ _ (⟨2, (⟨#[49]⟩ : ByteArray)⟩ : S60) [.int .i64 2, .string (⟨#[49]⟩ : ByteArray)] from (k60_mkM _ _ _ (⟨2, (⟨#[49]⟩ : ByteArray)⟩ : S60) )) (Reps.c2 (show Kd.M k60 _ _ _ (⟨6, (⟨#[50]⟩ : ByteArray)⟩ : S60) [.int .i64 6, .string (⟨#[50]⟩ : ByteArray)] from (k60_mkM _ _ _ (⟨6, (⟨#[50]⟩ : ByteArray)⟩ : S60) )) (Reps.c2 (show Kd.M k60 _ _ _ (⟨8, (⟨#[49]⟩ : ByteArray)⟩ : S60) [.int .i64 8, .string (⟨#[49]⟩ : ByteArray)] from (k60_mkM _ _ _ (⟨8, (⟨#[49]⟩ : ByteArray)⟩ : S60) )) (Reps.none _ _))))); intro v191 w28 ho29 hb hg_ hnew_; clear hg_ hnew_; (first | rw [← Ny190.out] at ho29 | (simp only [Int.reduceToNat] at ho29; rw [← Ny190.out] at ho29)); have n0_ := Aside0.mk (Kd.R_elder' z18_ (Kd.R_base ho29) hb); have n1_ := Aside0.mk (Kd.R_elder' z19_ (Kd.R_base ho29) hb); have n2_ := Aside0.mk (Kd.R_elder' (by (with_reducible repeat (first | apply Kd.R_alloc | apply Kd.R_drewN | apply Kd.R_drew)); exact HO185.out) (Kd.R_base ho29) hb); have n3_ := Aside0.mk (Kd.R_elder' (by (with_reducible repeat (first | apply Kd.R_alloc | apply Kd.R_drewN | apply Kd.R_drew)); exact HO188.out) (Kd.R_base ho29) hb); have n4_ := Aside0.mk (Kd.R_lower (Kd.R_new' (Kd.R_new' (Kd.R_new' (Kd.R_new' ho29 (Kd.R_lt z18_)) (Kd.R_lt z19_)) (Kd.R_lt (by (with_reducible repeat (first | apply Kd.R_alloc | apply Kd.R_drewN | apply Kd.R_drew)); exact HO185.out))) (Kd.R_lt (by (with_reducible repeat (first | apply Kd.R_alloc | apply Kd.R_drewN | apply Kd.R_drew)); exact HO188.out))) (below_size z10_)); have n5_ := Aside0.mk (below_step z10_ hb); clear HO169; clear HO181; clear HO185; clear HO188; clear HB; have HO169 := n0_; have HO181 := n1_; have HO185 := n2_; have HO188 := n3_; have HO192 := n4_; have HB := n5_; clear n0_ n1_ n2_ n3_ n4_ n5_; clear hb ho29; obtain ⟨Ao30, co30, eo30⟩ := Kd.R_slice HO185.out; subst eo30; obtain ⟨Ao31, co31, eo31⟩ := Kd.R_slice HO192.out; subst eo31) | (go_at_call 26; (with_reducible refine (metrolabref26_Same.calls k _ _ t182 _ _ y190 true _ ?side1 ?side2 ?side3 ?side4 A15.out).mono ?_); (case side1 => repeat (first | exact (Kd.R_reads' HO185.out).2.2 | (with_reducible refine Kd.C_alloc ?_ _) | (with_reducible refine Kd.C_drewN ?_ _) | (with_reducible refine Kd.C_drew ?_))); (case side2 => exact (Kd.R_reads' HO185.out).2.1); (case side3 => repeat (first | exact (Kd.R_reads' HO192.out).2.2 | (with_reducible refine Kd.C_alloc ?_ _) | (with_reducible refine Kd.C_drewN ?_ _) | (with_reducible refine Kd.C_drew ?_))); (case side4 => exact (Kd.R_reads' HO192.out).2.1); rintro e w' ⟨rfl, ⟨nd, rfl⟩⟩))
       go_ret
       exact ⟨z24_, z10_⟩
      ·replace c14 := Bool.eq_false_iff.mpr c14
       subst c14
       rw [if_neg (show ¬ (false = true) by decide)] at H
       cases H
     ·rw [if_neg c12] at H
      have c12b0 := beq_eq_false_iff_ne.mpr c12
      have c12b1 := bne_iff_ne.mpr c12
      cases H
    ·rw [if_neg c11] at H
     have c11b0 := beq_eq_false_iff_ne.mpr c11
     have c11b1 := bne_iff_ne.mpr c11
     cases H
   ·rw [if_neg c10] at H
    have c10b0 := beq_eq_false_iff_ne.mpr c10
    have c10b1 := bne_iff_ne.mpr c10
    cases H
  ·rw [if_neg c9] at H
   have c9b0 := beq_eq_false_iff_ne.mpr c9
   have c9b1 := bne_iff_ne.mpr c9
   cases H
 ·rw [if_neg c8] at H
  have c8b0 := beq_eq_false_iff_ne.mpr c8
  have c8b1 := bne_iff_ne.mpr c8
  cases H
def metrolabref26_Value.f (a0 : Int) : Option (Bool) := if a0 ≥ (-1048576) then (some (decide (a0 ≤ 1048576))) else (some false)
set_option maxHeartbeats 8000000 in
set_option maxRecDepth 100000 in
theorem metrolabref26_Value.calls (a0 : Int) (r : Bool) (w : World) (h : metrolabref26_Value.f a0 = some r) :
  Calls Tryz.prog 53 #[.int .i64 a0] w fun e w' => e = .returned (.bool r) ∧ Drawn0 w w' := by
 have H : (if a0 ≥ (-1048576) then (some (decide (a0 ≤ 1048576))) else (some false)) = some r := h
 clear h
 by_cases c2 : a0 ≥ (-1048576)
 ·rw [if_pos c2] at H
  have c2b0 : decide ((-1048576) ≤ a0) = true := decide_eq_true c2
  clear c2
  obtain rfl := Option.some.inj H
  go_enter Tryz.func53, Tryz.ntmps53
  go_wp2
  go_ret
  exact ⟨by first | rfl | (simp; done) | (simp [*]; done), by repeat (first | exact Drawn0.refl _ | apply Drawn0.step)⟩
 ·rw [if_neg c2] at H
  have c2b0 : decide ((-1048576) ≤ a0) = false := decide_eq_false c2
  clear c2
  obtain rfl := Option.some.inj H
  go_enter Tryz.func53, Tryz.ntmps53
  go_wp2
  go_ret
  exact ⟨by first | rfl | (simp; done) | (simp [*]; done), by repeat (first | exact Drawn0.refl _ | apply Drawn0.step)⟩
end Go.Proofs.YtkdpcgmnkifbbaaGreatDoor.D
end
section
namespace Go.Proofs.YtkdpcgmnkifbbaaGreatDoor
open Go.RowKit Go.Proofs.YtkdpcgmnkifbbaaGreatDoorW.PrintWords Go.Proofs.YtkdpcgmnkifbbaaGreatDoorW.PrintMore
open D (S60 prs)
theorem prs_get (l : List S60) (i : Nat) (h : i < l.length) : D.rd_T60 l (i : Int) = l[i] := by
 unfold D.rd_T60; rw [Int.toNat_natCast, List.getD, List.getElem?_eq_getElem h]; rfl
def szs (l : List S60) : Prop := ∀ x ∈ l, x.f1.size ≤ 140737488351232
theorem szs_prs {l : List S60} (h : szs l) : ∀ x ∈ prs l, x.2.size ≤ 9223372036854775807 := by
 intro x hx
 obtain ⟨y, hy, rfl⟩ := List.mem_map.1 hx
 exact Nat.le_trans (h y hy) (by decide)
theorem value_f (n : Int) : D.metrolabref26_Value.f n = some (decide (-1048576 ≤ n ∧ n ≤ 1048576)) := by
 unfold D.metrolabref26_Value.f
 by_cases h : n ≥ -1048576
 ·rw [if_pos h]
  by_cases h2 : n ≤ 1048576
  ·rw [decide_eq_true h2, decide_eq_true ⟨h, h2⟩]
  ·rw [decide_eq_false h2, decide_eq_false (fun h3 => h2 h3.2)]
 ·rw [if_neg h, decide_eq_false (fun h3 => h h3.1)]
end Go.Proofs.YtkdpcgmnkifbbaaGreatDoor
end
section
namespace Go.Proofs.YtkdpcgmnkifbbaaGreatDoor
open Go.RowKit Go.Proofs.YtkdpcgmnkifbbaaGreatDoorW.PrintWords Go.Proofs.YtkdpcgmnkifbbaaGreatDoorW.PrintMore
open D (S60 prs)
theorem len_lt {v : Int} {e n : Nat} (h : v.natAbs < 10 ^ e) (h0 : 0 < e) (hn : e ≤ n) : (dtx v.natAbs).size ≤ n := Nat.le_trans (size_of_lt h h0) hn
theorem okI_bd {v : Int} {e : Nat} (h : v.natAbs < 10 ^ e) (h0 : 0 < e) (hn : e ≤ 30000) : D.okI (itx v) := D.okI_itx (len_lt h h0 hn)
theorem rtx_zero : rtx 0 = (⟨#[48]⟩ : ByteArray) := by
 rw [← itx_zero]
 exact rtx_int 0
theorem rtx_one : rtx 1 = (⟨#[49]⟩ : ByteArray) := by
 rw [one_text]
 exact rtx_int 1
structure Fine (l : List S60) : Prop where
 sz : szs l
 lim : dck (prs l) = 0 → ∀ x ∈ prs l, (ival x.2).natAbs < 10 ^ 60
 len : l.length ≤ 4611686018427387904
theorem Fine.ok {l : List S60} (h : Fine l) : okD (prs l) := ⟨szs_prs h.sz, h.lim⟩
theorem Fine.gd {l : List S60} (h : Fine l) (h0 : dck (prs l) = 0) : Gd (prs l) := gd_of h0 (h.lim h0)
theorem dprob_f (l : List S60) (h : Fine l) (lo hi : Int) : D.dist_Probability.f l lo hi = some (probR (prs l) lo hi) := by
 unfold D.dist_Probability.f; rw [if_pos h.ok]
theorem dcheck_f (l : List S60) (h : Fine l) : D.dist_Check.f l = some (dck (prs l)) := by
 unfold D.dist_Check.f; rw [if_pos (szs_prs h.sz)]
end Go.Proofs.YtkdpcgmnkifbbaaGreatDoor
end
section
namespace Go.Proofs.YtkdpcgmnkifbbaaGreatDoor
open Go.RowKit Go.Proofs.YtkdpcgmnkifbbaaGreatDoorW.PrintWords Go.Proofs.YtkdpcgmnkifbbaaGreatDoorW.PrintMore
open D (S60 prs)
theorem probR_ok {l : List (Int × ByteArray)} (h0 : dck l = 0) {lo hi : Int} (h : lo ≤ hi) : probR l lo hi = (rtx (probq l lo hi), 0) := by
 unfold probR distR
 rw [if_pos h0, if_neg (by omega)]
theorem compare_rtx {p q : Rat} {a b : Nat} (hp : Bd a p) (hq : Bd b q) (ha : 0 < a) (hb : 0 < b) (hab : a + b ≤ 1024) : D.ratio_Compare.f (rtx p) (rtx q) = some (cmpq p q, 0) := by
 unfold D.ratio_Compare.f
 have h1 := rtx_size2 hp ha
 have h2 := rtx_size2 hq hb
 rw [if_pos ⟨by omega, by omega⟩, cmpR_rtx hp hq hab]
theorem zero_bd : Bd 1 (0 : Rat) := ⟨by decide, by decide⟩
theorem one_bd : Bd 1 (1 : Rat) := ⟨by decide, by decide⟩
end Go.Proofs.YtkdpcgmnkifbbaaGreatDoor
end
section
namespace Go.Proofs.YtkdpcgmnkifbbaaGreatDoor
open Go.RowKit Go.Proofs.YtkdpcgmnkifbbaaGreatDoorW.PrintWords Go.Proofs.YtkdpcgmnkifbbaaGreatDoorW.PrintMore
open D (S60 prs)
theorem two_text : (⟨#[50]⟩ : ByteArray) = itx 2 := by unfold itx Lib.itoa; rw [if_neg (by decide)]; show _ = (⟨(Lib.decDigits 2).toArray⟩ : ByteArray); rw [dd_small (by decide)]; rfl
def samp : List S60 := [⟨1, itx 1⟩, ⟨2, itx 2⟩, ⟨4, itx 1⟩]
theorem sample_f : D.metrolablaw26_Sample.f = some samp := by
 unfold D.metrolablaw26_Sample.f samp
 rw [one_text, two_text]
theorem chk1 : chk (itx 1) = 0 := chk_small (by decide)
theorem chk2 : chk (itx 2) = 0 := chk_small (by decide)
theorem samp_prs : prs samp = [(1, itx 1), (2, itx 2), (4, itx 1)] := rfl
theorem samp_dck : dck (prs samp) = 0 := by
 rw [samp_prs]
 simp [dck, dckl, dck1, chk1, chk2, ival_itx]
theorem samp_sz : szs samp := by
 intro x hx
 have h1 := itx_size_le 1 (by decide) (by decide)
 have h2 := itx_size_le 2 (by decide) (by decide)
 simp only [samp, List.mem_cons, List.not_mem_nil, or_false] at hx
 rcases hx with rfl | rfl | rfl <;> simp only <;> omega
theorem samp_fine : Fine samp := by
 refine ⟨samp_sz, fun _ x hx => ?_, by decide⟩
 rw [samp_prs] at hx
 simp only [List.mem_cons, List.not_mem_nil, or_false] at hx
 rcases hx with rfl | rfl | rfl <;> simp only [ival_itx] <;> decide
theorem samp_tot : totw (prs samp) = 4 := by rw [samp_prs]; simp [totw, sumf, fW, ival_itx]
theorem samp_m1 : sumf (fM 1) (prs samp) = 9 := by rw [samp_prs]; simp [sumf, fM, ival_itx]
theorem samp_m2 : sumf (fM 2) (prs samp) = 25 := by rw [samp_prs]; simp [sumf, fM, ival_itx]
theorem samp_mean : meanR (prs samp) = (rtx (Rat.divInt 9 4), 0) := by
 unfold meanR distR meanq
 rw [if_pos samp_dck, samp_m1, samp_tot]
theorem samp_var : varR (prs samp) = (rtx (Rat.divInt 19 16), 0) := by
 unfold varR distR varq momq
 rw [if_pos samp_dck, samp_m1, samp_m2, samp_tot, Rat.divInt_mul_divInt, Rat.divInt_sub_divInt _ _ (by decide) (by decide)]
 rw [(Rat.divInt_eq_divInt_iff (n₂ := 19) (d₂ := 16) (by decide) (by decide)).2 (by decide)]
theorem samp_prob (lo hi : Int) (h : lo ≤ hi) : probR (prs samp) lo hi = (rtx (Rat.divInt (sumf (fP lo hi) (prs samp)) 4), 0) := by
 rw [probR_ok samp_dck h]; unfold probq; rw [samp_tot]
theorem rtx_low {u v : Int} (hv : 1 < v) (h : gcdv u v = 1) : (rtx (Rat.divInt u v)).toList = (itx u).toList ++ 47 :: (itx v).toList := by
 obtain ⟨h1, h2⟩ := divInt_low (by omega) h
 rw [Lib.toList_data, rtx_list, h1, h2, if_neg (by omega), Lib.toList_data, Lib.toList_data]
theorem itx_one_digit (n : Nat) (h : n < 10) : (itx (n : Int)).toList = [UInt8.ofNat (48 + n)] := by rw [Lib.toList_data, itx_list, itoa_nat, dd_small h]
theorem itx_two_digits (n : Nat) (h : ¬ n < 10) (h2 : n / 10 < 10) : (itx (n : Int)).toList = [UInt8.ofNat (48 + n / 10), UInt8.ofNat (48 + n % 10)] := by rw [Lib.toList_data, itx_list, itoa_nat, dd_big h, dd_small h2]; rfl
theorem txt_mean : (rtx (Rat.divInt 9 4)).toList = ([57, 47, 52] : List UInt8) := by
 rw [rtx_low (by decide) (by decide), show (9 : Int) = ((9 : Nat) : Int) from rfl, show (4 : Int) = ((4 : Nat) : Int) from rfl, itx_one_digit 9 (by decide), itx_one_digit 4 (by decide)]; rfl
theorem txt_var : (rtx (Rat.divInt 19 16)).toList = ([49, 57, 47, 49, 54] : List UInt8) := by
 rw [rtx_low (by decide) (by decide), show (19 : Int) = ((19 : Nat) : Int) from rfl, show (16 : Int) = ((16 : Nat) : Int) from rfl, itx_two_digits 19 (by decide) (by decide), itx_two_digits 16 (by decide) (by decide)]; rfl
theorem txt_half : (rtx (Rat.divInt 1 2)).toList = ([49, 47, 50] : List UInt8) := by
 rw [rtx_low (by decide) (by decide), show (1 : Int) = ((1 : Nat) : Int) from rfl, show (2 : Int) = ((2 : Nat) : Int) from rfl, itx_one_digit 1 (by decide), itx_one_digit 2 (by decide)]; rfl
theorem txt_45 : (⟨#[52, 47, 53]⟩ : ByteArray) = rtx (Rat.divInt 4 5) := by
 have h : (rtx (Rat.divInt 4 5)).toList = ([52, 47, 53] : List UInt8) := by
  rw [rtx_low (by decide) (by decide), show (4 : Int) = ((4 : Nat) : Int) from rfl, show (5 : Int) = ((5 : Nat) : Int) from rfl, itx_one_digit 4 (by decide), itx_one_digit 5 (by decide)]; rfl
 rw [Lib.toList_data] at h
 rw [← Lib.mk_data (rtx (Rat.divInt 4 5)), h]
theorem bd45 : Bd 31 (Rat.divInt 4 5) := bd_divInt (by decide) (by decide) (by decide)
theorem cmp_divInt {u v x y : Int} (hv : 0 < v) (hy : 0 < y) (g1 : gcdv u v = 1) (g2 : gcdv x y = 1) : cmpq (Rat.divInt u v) (Rat.divInt x y) = cmpv (u * y) (x * v) := by
 unfold cmpq
 obtain ⟨a1, a2⟩ := divInt_low hv g1
 obtain ⟨b1, b2⟩ := divInt_low hy g2
 rw [a1, a2, b1, b2]
theorem sum_p1 : sumf (fP (-1048576) 1) (prs samp) = 1 := by rw [samp_prs]; simp [sumf, fP, pick, ival_itx]
theorem sum_p2 : sumf (fP (-1048576) 2) (prs samp) = 3 := by rw [samp_prs]; simp [sumf, fP, pick, ival_itx]
theorem sum_p4 : sumf (fP (-1048576) 4) (prs samp) = 4 := by rw [samp_prs]; simp [sumf, fP, pick, ival_itx]
theorem sum_p23 : sumf (fP 2 3) (prs samp) = 2 := by rw [samp_prs]; simp [sumf, fP, pick, ival_itx]
theorem dq_round (l : List S60) (h : Fine l) (h0 : dck (prs l) = 0) (q : Rat) (hq : Bd 31 q) (i : Nat) (hi : i < l.length) (hi2 : i ≤ 4096) (hv : -1048576 ≤ l[i].f0) (k : Nat) :
  D.dist_Quantile.l0 (k + 1) l (rtx q) l (l.length : Int) i = if cmpq (probq (prs l) (-1048576) l[i].f0) q ≥ 0 then some (l[i].f0, 0) else D.dist_Quantile.l0 k l (rtx q) l (l.length : Int) ((i + 1 : Nat) : Int) := by
 have hgd := h.gd h0
 have hg := prs_get l i hi
 have e1 : D.dist_Probability.f l (-1048576) l[i].f0 = some (rtx (probq (prs l) (-1048576) l[i].f0), 0) := by rw [dprob_f l h, probR_ok h0 hv]
 have e2 := compare_rtx (hgd.prob (-1048576) l[i].f0) hq (by decide) (by decide) (by decide)
 rw [D.dist_Quantile.l0, if_pos (by omega), if_pos (by omega), if_pos (by omega), hg, e1, Option.bind_some, if_pos rfl, e2, Option.bind_some, if_pos rfl, IntWalk.wrap64_in _ (by omega)]
 rfl
theorem samp_quant : Runs (fun k => D.dist_Quantile.f k samp (⟨#[52, 47, 53]⟩ : ByteArray)) (4, 0) := by
 rw [txt_45]
 have hb := bd45
 have hr := hb.rchk (by decide)
 have c1 : D.ratio_Check.f (rtx (Rat.divInt 4 5)) = some (rchk (rtx (Rat.divInt 4 5))) := by
  unfold D.ratio_Check.f; rw [if_pos (by have := rtx_size2 hb (by decide); omega)]
 have k1 := compare_rtx hb zero_bd (by decide) (by decide) (by decide)
 have k2 := compare_rtx hb one_bd (by decide) (by decide) (by decide)
 rw [rtx_zero] at k1
 rw [rtx_one] at k2
 have g45 : gcdv 4 5 = 1 := by decide
 have v1 : cmpq (Rat.divInt 4 5) 0 = 1 := by rw [show (0 : Rat) = Rat.divInt 0 1 from rfl, cmp_divInt (by decide) (by decide) g45 (by decide)]; decide
 have v2 : cmpq (Rat.divInt 4 5) 1 = -1 := by rw [show (1 : Rat) = Rat.divInt 1 1 from rfl, cmp_divInt (by decide) (by decide) g45 (by decide)]; decide
 have q1 : cmpq (probq (prs samp) (-1048576) 1) (Rat.divInt 4 5) = -1 := by unfold probq; rw [sum_p1, samp_tot, cmp_divInt (by decide) (by decide) (by decide) g45]; decide
 have q2 : cmpq (probq (prs samp) (-1048576) 2) (Rat.divInt 4 5) = -1 := by unfold probq; rw [sum_p2, samp_tot, cmp_divInt (by decide) (by decide) (by decide) g45]; decide
 have q3 : cmpq (probq (prs samp) (-1048576) 4) (Rat.divInt 4 5) = 1 := by
  unfold probq
  rw [sum_p4, samp_tot, (Rat.divInt_eq_divInt_iff (n₂ := 1) (d₂ := 1) (by decide) (by decide)).2 (by decide), cmp_divInt (by decide) (by decide) (by decide) g45]; decide
 unfold D.dist_Quantile.f
 rw [dcheck_f samp samp_fine]
 simp only [Option.bind_some]
 refine Runs.pos samp_dck ?_
 rw [c1]; simp only [Option.bind_some]
 refine Runs.pos hr ?_
 rw [k1, k2]; simp only [Option.bind_some, v1, v2]
 refine Runs.neg (by decide) ?_
 refine Runs.succ (Runs.succ (Runs.succ (Runs.succ (Runs.pure _) (g := fun k => D.dist_Quantile.l0 k samp (rtx (Rat.divInt 4 5)) samp (samp.length : Int) ((2 : Nat) : Int)) fun k => ?_) (g := fun k => D.dist_Quantile.l0 k samp (rtx (Rat.divInt 4 5)) samp (samp.length : Int) ((1 : Nat) : Int)) fun k => ?_) (g := fun k => D.dist_Quantile.l0 k samp (rtx (Rat.divInt 4 5)) samp (samp.length : Int) ((0 : Nat) : Int)) fun k => ?_) fun k => ?_
 ·rw [dq_round samp samp_fine samp_dck _ hb 2 (by decide) (by decide) (by decide)]
  rw [show (samp[2]'(by decide)).f0 = 4 from rfl, q3, if_pos (by decide)]
 ·rw [dq_round samp samp_fine samp_dck _ hb 1 (by decide) (by decide) (by decide)]
  rw [show (samp[1]'(by decide)).f0 = 2 from rfl, q2, if_neg (by decide)]
 ·rw [dq_round samp samp_fine samp_dck _ hb 0 (by decide) (by decide) (by decide)]
  rw [show (samp[0]'(by decide)).f0 = 1 from rfl, q1, if_neg (by decide)]
 ·rw [D.dist_Quantile.j0, if_neg (by decide)]; rfl
end Go.Proofs.YtkdpcgmnkifbbaaGreatDoor
end
