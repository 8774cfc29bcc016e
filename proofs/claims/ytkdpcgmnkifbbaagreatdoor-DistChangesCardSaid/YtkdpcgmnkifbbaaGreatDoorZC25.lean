/- Joined by a program of this session out of its texts, with only what the last theorem needs: Rc Da Db. No conditions but those stated. -/
import Derived.Test.YtkdpcgmnkifbbaaGreatDoorZC24
import Derived.Test.YtkdpcgmnkifbbaaGreatDoorZC22
set_option linter.unusedVariables false
set_option linter.unusedSimpArgs false
namespace Go.Proofs.YtkdpcgmnkifbbaaGreatDoorW.PrintMore
end Go.Proofs.YtkdpcgmnkifbbaaGreatDoorW.PrintMore
namespace Go.Proofs.YtkdpcgmnkifbbaaGreatDoorW.PrintWords
end Go.Proofs.YtkdpcgmnkifbbaaGreatDoorW.PrintWords
section
namespace Go.Proofs.YtkdpcgmnkifbbaaGreatDoor
open Go.RowKit Go.Proofs.YtkdpcgmnkifbbaaGreatDoorW.PrintWords Go.Proofs.YtkdpcgmnkifbbaaGreatDoorW.PrintMore
def cmpR (a b : ByteArray) : Int × Int := if rchk a ≠ 0 then (0, rchk a) else if rchk b ≠ 0 then (0, rchk b) else if fits (rnum a * rden b) ∧ fits (rnum b * rden a) then (cmpv (rnum a * rden b) (rnum b * rden a), 0) else (0, 11)
theorem cmpR_bad {a b : ByteArray} (h : rchks [a, b] ≠ 0) : cmpR a b = (0, rchks [a, b]) := by
 unfold cmpR
 unfold rchks rchks rchks at *
 by_cases h1 : rchk a = 0
 ·rw [if_pos h1] at h ⊢
  by_cases h2 : rchk b = 0
  ·rw [if_pos h2] at h; exact absurd rfl h
  ·rw [if_neg h2] at h ⊢
   rw [if_neg (fun h => h h1), if_pos h2]
 ·rw [if_neg h1] at h ⊢
  rw [if_pos h1]
def CmpPost (w : World) (r : Int × Int) (e : Ending) (w' : World) : Prop := e = .returned (.tuple #[.int .i64 r.1, .int .i64 r.2]) ∧ Below w.heap.size w w'
theorem cmp_calls (u v : Int) (hu : fits u) (hv : fits v) (w : World) : Calls Tryz.prog 69 #[.string (itx u), .string (itx v)] w fun e w' => e = .returned (.tuple #[.int .i64 (cmpv u v), .int .i64 0]) ∧ Below w.heap.size w w' := by
 have s1 := chk_size (chk_fits hu)
 have s2 := chk_size (chk_fits hv)
 have h := compare_f (itx u) (itx v) (by omega) (by omega)
 rw [show twoi (itx u) (itx v) (cmpv (ival (itx u)) (ival (itx v))) = (cmpv u v, 0) by
  unfold twoi; rw [if_neg (fun h => h (chk_fits hu)), if_neg (fun h => h (chk_fits hv)), ival_itx, ival_itx]] at h
 exact C.whole_Compare.calls 5 _ _ _ _ w h
set_option maxRecDepth 100000 in
set_option maxHeartbeats 1000000 in
theorem rCompare_calls (a b : ByteArray) (ha : a.size ≤ 4611686018427387904) (hb : b.size ≤ 4611686018427387904) (w : World) (ht : Tabs w) :
  Calls Tryz.prog 37 #[.string a, .string b] w (CmpPost w (cmpR a b)) := by
 have hall := checks_two a b ha hb
 have HCA := Lib.hid (cut_f a ha)
 have HCB := Lib.hid (cut_f b hb)
 have HT := Lib.hid ht; clear ht
 have HAL := Lib.hid hall; clear hall ha hb
 obtain ⟨y, hy⟩ : ∃ y : List ByteArray, y = [a, b] := ⟨_, rfl⟩
 have Ny := Lib.hid hy
 rw [← hy] at HAL
 by_cases hc : rchks [a, b] = 0
 ·rw [← hy] at hc
  rw [hc] at HAL
  rw [hy] at hc
  clear hy
  obtain ⟨h1, h2⟩ := rchks_two hc
  clear hc
  have P1 := Lib.hid (rchk_parts h1)
  have P2 := Lib.hid (rchk_parts h2)
  have hR : cmpR a b = if fits (rnum a * rden b) ∧ fits (rnum b * rden a) then (cmpv (rnum a * rden b) (rnum b * rden a), 0) else (0, 11) := by
   unfold cmpR; rw [if_neg (fun h => h h1), if_neg (fun h => h h2)]
  clear h1 h2
  have HR0 := Lib.hid hR; clear hR
  go_enter Tryz.func37, Tryz.ntmps37
  go_wp2_with (first | ((with_reducible refine gate_dst (N := 18) rfl ?_); refine Kd.R_lit Kd.string _ 25 ?hg (N := 18) ?hd (xs := ([a, b] : List ByteArray)) (inner := [.string a, .string b]) (ok := fun _ => True) (okp := fun _ => True) ?hr ?hp (fun _ hk => hk) trivial (Below.refl _ _) (Nat.le_refl _) (by simp) ?_; (case hd => rfl); (case hg => rfl); (case hr => first | (go_simp; done) | (go_simp; rfl)); (case hp => exact (Reps.one (show Kd.M Kd.string _ _ _ a [.string a] from rfl) (Reps.one (show Kd.M Kd.string _ _ _ b [.string b] from rfl) (Reps.none _ _)))); intro v1 w1 ho hb1 hg_ hnew_; clear hg_ hnew_; rw [← Ny.out] at ho; have HO := Lib.hid ho; clear ho; have HB1 := Lib.hid hb1; clear hb1; obtain ⟨Ao, co, eo⟩ := Kd.R_slice HO.out; subst eo))
  refine (Q.ratio_checks.calls 6 Ao co y 0 w1 (Kd.R_reads' HO.out).2.2 (Kd.R_reads' HO.out).2.1 HAL.out (Aside0.mk (HT.out.below HB1.out))).mono ?_
  rintro e w2 ⟨rfl, hb2⟩
  have HB2 := Lib.hid (below_then HB1.out HB1.out.size hb2); clear hb2 HO
  go_wp2_with fail
  refine (Q.ratio_cut.calls a (cutF a).1 (cutF a).2.1 (cutF a).2.2 w2 HCA.out).mono ?_
  rintro e w3 ⟨rfl, hb3⟩
  have HB3 := Lib.hid (below_then HB2.out HB2.out.size hb3); clear hb3
  go_wp2_with fail
  refine (Q.ratio_cut.calls b (cutF b).1 (cutF b).2.1 (cutF b).2.2 w3 HCB.out).mono ?_
  rintro e w4 ⟨rfl, hb4⟩
  have HB4 := Lib.hid (below_then HB3.out HB3.out.size hb4); clear hb4
  go_wp2_with fail
  have hs5 : Sm (w4.alloc (.cells #[.int .i64 0] 100)) w4.heap.size 0 := Sm.fresh w4
  have hu5 : Up (w4.alloc (.cells #[.int .i64 0] 100)) w4.heap.size w := ⟨HT.out, HB4.out.size, HB4.out.alloc HB4.out.size _⟩
  have hls : w4.heap.size + 1 = (w4.alloc (.cells #[.int .i64 0] 100)).heap.size := by simp
  generalize w4.alloc (.cells #[.int .i64 0] 100) = w5 at hs5 hu5 hls ⊢
  rw [hls]
  have HS5 := Lib.hid hs5; clear hs5
  have HU5 := Lib.hid hu5; clear hu5
  refine (mulLit w4.heap.size (cutF a).1 (cutF b).2.1 0 w5 w _ HS5.out P1.out.1 P2.out.2.1 HU5.out).mono ?_
  rintro e w6 ⟨rfl, h1, h2⟩
  have HS6 := Lib.hid h1; clear h1
  have HU6 := Lib.hid (HU5.out.grown h2); clear h2
  go_wp2_with fail
  refine (mulLit w4.heap.size (cutF b).1 (cutF a).2.1 _ w6 w _ HS6.out P2.out.1 P1.out.2.1 HU6.out).mono ?_
  rintro e w7 ⟨rfl, h1, h2⟩
  have HU7 := Lib.hid (HU6.out.grown h2); clear h2
  have eX : ival (cutF a).1 * ival (cutF b).2.1 = rnum a * rden b := rfl
  have eY : ival (cutF b).1 * ival (cutF a).2.1 = rnum b * rden a := rfl
  rw [eX, eY] at h1
  rw [eX, eY]
  clear eX eY HS6 HU6 hls
  generalize rnum a * rden b = X at *
  generalize rnum b * rden a = Y at *
  by_cases hX : fits X
  ·by_cases hY : fits Y
   ·rw [mres_fits hX, mres_fits hY] at h1
    rw [mres_fits hX, mres_fits hY]
    have c7 := h1.c0
    have HRR := HR0.out
    rw [if_pos ⟨hX, hY⟩] at HRR
    have HRR := Lib.hid HRR
    have HC := Lib.hid (cmp_calls X Y hX hY)
    clear hX hY h1
    go_wp2_with fail
    refine (HC.out w7).mono ?_
    rintro e w8 ⟨rfl, hb8⟩
    have HB8 := Lib.hid (below_then HU7.out.below HU7.out.below.size hb8); clear hb8
    go_wp2
    go_ret2
    exact ⟨by rw [HRR.out]; rfl, HB8.out⟩
   ·rw [mres_fits hX, mres_long hY] at h1
    rw [mres_fits hX, mres_long hY]
    have c7 := h1.c0
    have HRR := HR0.out
    rw [if_neg (fun h => hY h.2)] at HRR
    have HRR := Lib.hid HRR
    clear hX hY h1
    go_wp2_with fail
    go_region
    go_wp2
    go_ret2
    exact ⟨by rw [HRR.out]; rfl, HU7.out.below.drew⟩
  ·rw [mres_long hX, mres_err] at h1
   rw [mres_long hX, mres_err]
   have c7 := h1.c0
   have HRR := HR0.out
   rw [if_neg (fun h => hX h.1)] at HRR
   have HRR := Lib.hid HRR
   clear hX h1
   go_wp2_with fail
   go_region
   go_wp2
   go_ret2
   exact ⟨by rw [HRR.out]; rfl, HU7.out.below.drew⟩
 ·have hR := cmpR_bad hc
  have HRR := Lib.hid hR; clear hR
  rw [show rchks y = rchks [a, b] by rw [hy]] at HAL
  generalize rchks [a, b] = c at HAL hc HRR
  clear hy
  have hc2 : (c == 0) = false := beq_eq_false_iff_ne.2 hc
  clear hc
  go_enter Tryz.func37, Tryz.ntmps37
  go_wp2_with (first | ((with_reducible refine gate_dst (N := 18) rfl ?_); refine Kd.R_lit Kd.string _ 25 ?hg (N := 18) ?hd (xs := ([a, b] : List ByteArray)) (inner := [.string a, .string b]) (ok := fun _ => True) (okp := fun _ => True) ?hr ?hp (fun _ hk => hk) trivial (Below.refl _ _) (Nat.le_refl _) (by simp) ?_; (case hd => rfl); (case hg => rfl); (case hr => first | (go_simp; done) | (go_simp; rfl)); (case hp => exact (Reps.one (show Kd.M Kd.string _ _ _ a [.string a] from rfl) (Reps.one (show Kd.M Kd.string _ _ _ b [.string b] from rfl) (Reps.none _ _)))); intro v1 w1 ho hb1 hg_ hnew_; clear hg_ hnew_; rw [← Ny.out] at ho; have HO := Lib.hid ho; clear ho; have HB1 := Lib.hid hb1; clear hb1; obtain ⟨Ao, co, eo⟩ := Kd.R_slice HO.out; subst eo))
  refine (Q.ratio_checks.calls 6 Ao co y c w1 (Kd.R_reads' HO.out).2.2 (Kd.R_reads' HO.out).2.1 HAL.out (Aside0.mk (HT.out.below HB1.out))).mono ?_
  rintro e w2 ⟨rfl, hb2⟩
  have HB2 := Lib.hid (below_then HB1.out HB1.out.size hb2); clear hb2 HO
  go_wp2
  go_ret2
  exact ⟨by rw [HRR.out]; rfl, HB2.out⟩
def makeF (a b : ByteArray) : ByteArray × Int := two a b (if ival b = 0 then (⟨#[]⟩, 10) else (rtx (Rat.divInt (ival a) (ival b)), 0))
set_option maxRecDepth 100000 in
set_option maxHeartbeats 1000000 in
theorem make_calls (a b : ByteArray) (ha : a.size ≤ 9223372036854775807) (hb : b.size ≤ 9223372036854775807) (w : World) (ht : Tabs w) :
  Calls Tryz.prog 65 #[.string a, .string b] w (TwoPost w (makeF a b)) := by
 have HT := Lib.hid ht; clear ht
 have CA := Lib.hid (check_calls a ha); clear ha
 have CB := Lib.hid (check_calls b hb); clear hb
 have hmk : ∀ r, makeF a b = r → Hid (makeF a b = r) := fun r h => Lib.hid h
 go_enter Tryz.func65, Tryz.ntmps65
 go_wp2
 have la := lit0 w (.string a) (.string b) 39
 have lb := lit1 w (.string a) (.string b) 39
 have hb0 : Below w.heap.size w (w.alloc (.cells #[.string a, .string b] 39)) := (Below.refl _ _).alloc (Nat.le_refl _) _
 have hl0 : w.heap.size < (w.alloc (.cells #[.string a, .string b] 39)).heap.size := by simp
 generalize w.alloc (.cells #[.string a, .string b] 39) = w1 at la lb hb0 hl0 ⊢
 have LA := Lib.hid la; clear la
 have LB := Lib.hid lb; clear lb
 have HB0 := Lib.hid hb0; clear hb0
 have HMK := Lib.hid hmk; clear hmk
 go_loopg [15] 2 (fun g v15 wr => Hid (Below w1.heap.size w1 wr) ∧ ((g = 2 ∧ v15 = .int .i64 0) ∨ (g = 1 ∧ v15 = .int .i64 1 ∧ Hid (chk a = 0)) ∨ (g = 0 ∧ v15 = .int .i64 2 ∧ Hid (chk a = 0) ∧ Hid (chk b = 0))))
 case atStart => exact ⟨Lib.hid (Below.refl _ _), .inl ⟨rfl, rfl⟩⟩
 case round =>
  obtain ⟨HG, ⟨rfl, rfl⟩ | ⟨rfl, rfl, HA0⟩ | ⟨rfl, rfl, HA0, HB00⟩⟩ := hrel
  ·have ca := (HG.out.cell (World.block_lt_of_cell? w1 _ LA.out)).trans LA.out
   have hd : chk a = 0 ∨ chk a ≠ 0 := by by_cases h : chk a = 0; exact .inl h; exact .inr h
   rcases hd with h | h
   ·go_wp2_with fail
    refine (CA.out wr).mono ?_
    rintro e w2 ⟨rfl, hb2⟩
    have HB2 := Lib.hid (below_then HG.out HG.out.size hb2); clear hb2
    rw [h]
    have HA0 := Lib.hid h; clear h
    go_wp2
    go_roundg 1
    case measure => decide
    case rel => exact ⟨HB2, .inr (.inl ⟨rfl, rfl, HA0⟩)⟩
   ·have hr := HMK.out (⟨#[]⟩, chk a) (by unfold makeF two; rw [if_pos h])
    go_wp2_with fail
    refine (CA.out wr).mono ?_
    rintro e w2 ⟨rfl, hb2⟩
    have HB2 := Lib.hid (below_then HB0.out HB0.out.size (below_then HG.out HG.out.size hb2)); clear hb2
    generalize chk a = c at h hr ⊢
    have hc2 : (c == 0) = false := beq_eq_false_iff_ne.2 h
    clear h
    go_wp2
    go_ret2
    exact ⟨by rw [hr.out]; rfl, HB2.out⟩
  ·have cb := (HG.out.cell (World.block_lt_of_cell? w1 _ LB.out)).trans LB.out
   have hd : chk b = 0 ∨ chk b ≠ 0 := by by_cases h : chk b = 0; exact .inl h; exact .inr h
   rcases hd with h | h
   ·go_wp2_with fail
    refine (CB.out wr).mono ?_
    rintro e w2 ⟨rfl, hb2⟩
    have HB2 := Lib.hid (below_then HG.out HG.out.size hb2); clear hb2
    rw [h]
    have HB00 := Lib.hid h; clear h
    go_wp2
    go_roundg 0
    case measure => decide
    case rel => exact ⟨HB2, .inr (.inr ⟨rfl, rfl, HA0, HB00⟩)⟩
   ·have hr := HMK.out (⟨#[]⟩, chk b) (by unfold makeF two; rw [if_neg (fun h => h HA0.out), if_pos h])
    go_wp2_with fail
    refine (CB.out wr).mono ?_
    rintro e w2 ⟨rfl, hb2⟩
    have HB2 := Lib.hid (below_then HB0.out HB0.out.size (below_then HG.out HG.out.size hb2)); clear hb2
    generalize chk b = c at h hr ⊢
    have hc2 : (c == 0) = false := beq_eq_false_iff_ne.2 h
    clear h
    go_wp2
    go_ret2
    exact ⟨by rw [hr.out]; rfl, HB2.out⟩
  ·have HBW := Lib.hid (below_then HB0.out HB0.out.size HG.out)
   have hz := zero_text HB00.out
   by_cases h0 : ival b = 0
   ·rw [decide_eq_true h0] at hz
    have hr := HMK.out (⟨#[]⟩, 10) (by unfold makeF; rw [two_go HA0.out HB00.out, if_pos h0])
    clear h0
    go_wp2
    go_ret2
    exact ⟨by rw [hr.out]; rfl, HBW.out⟩
   ·rw [decide_eq_false h0] at hz
    have hr := HMK.out (rtx (Rat.divInt (ival a) (ival b)), 0) (by unfold makeF; rw [two_go HA0.out HB00.out, if_neg h0])
    have H0 := Lib.hid h0; clear h0
    go_wp2_with fail
    have hs5 : Sm (wr.alloc (.cells #[.int .i64 0] 100)) wr.heap.size 0 := Sm.fresh wr
    have hu5 : Up (wr.alloc (.cells #[.int .i64 0] 100)) wr.heap.size w := ⟨HT.out, HBW.out.size, HBW.out.alloc HBW.out.size _⟩
    generalize wr.alloc (.cells #[.int .i64 0] 100) = w5 at hs5 hu5 ⊢
    have HS5 := Lib.hid hs5; clear hs5
    have HU5 := Lib.hid hu5; clear hu5
    refine (lowest_calls wr.heap.size a b w5 w HS5.out HA0.out HB00.out H0.out HU5.out).mono ?_
    rintro e w7 ⟨rfl, hs7, hg7⟩
    have c7 := hs7.c0
    have HU7 := Lib.hid (HU5.out.grown hg7); clear hg7 hs7
    go_wp2
    go_ret2
    exact ⟨by rw [hr.out]; rfl, HU7.out.below⟩
end Go.Proofs.YtkdpcgmnkifbbaaGreatDoor
end
section
namespace Go.Proofs.YtkdpcgmnkifbbaaGreatDoor
open Go.RowKit Go.Proofs.YtkdpcgmnkifbbaaGreatDoorW.PrintWords Go.Proofs.YtkdpcgmnkifbbaaGreatDoorW.PrintMore
abbrev KP : Kd (Int × ByteArray) := Kd.pair (Kd.int .i64) Kd.string
theorem at_KP {w : World} {A : Option Addr} {n : Nat} {xs : List (Int × ByteArray)} (h : Kd.C KP w A n xs) (i : Nat) (h1 : i < xs.length) :
  ∃ ad , A = some ad ∧ w.cell? (ad.add (i * 2)) = some (.int .i64 xs[i].1) ∧ w.cell? ⟨(ad.add (i * 2)).block, (ad.add (i * 2)).off + 1, none⟩ = some (.string xs[i].2) := by
 obtain ⟨ad, c, e, _, hK, hc0⟩ := Kd.C_get h ((0 : Int), ByteArray.empty) (i : Int) (by omega) (by have := h.1; omega)
 rw [Int.toNat_natCast, List.getD, List.getElem?_eq_getElem h1, Option.getD_some] at hK
 rw [Int.toNat_natCast] at hc0
 have hc : ∀ j u, c[j]? = some u → w.cell? (ad.add (i * 2 + j)) = some u := hc0
 obtain ⟨c1, c2, rfl, e1, e2⟩ := hK
 cases e1
 cases e2
 exact ⟨ad, e, hc 0 _ rfl, by rw [← add_field _ _ 1 (by omega)]; exact hc 1 _ rfl⟩
def dck1 (p : Option Int) (x : Int × ByteArray) : Int :=
 if chk x.2 ≠ 0 then chk x.2 else if ival x.2 ≤ 0 ∨ ¬ (-1048576 ≤ x.1 ∧ x.1 ≤ 1048576) then 2 else match p with | none => 0 | some q => if x.1 ≤ q then 9 else 0
def dckl : Option Int → List (Int × ByteArray) → Int
 | _, [] => 0
 | p, x :: t => if dck1 p x ≠ 0 then dck1 p x else dckl (some x.1) t
def dck (l : List (Int × ByteArray)) : Int := if l.length = 0 then 13 else if l.length > 4096 then 5 else dckl none l
theorem sign_f2 (a : ByteArray) (h : chk a = 0) (hs : a.size ≤ 9223372036854775807) : E.dist_sign.f a = some (sgn (ival a)) := by
 unfold E.dist_sign.f E.whole_Sign.f
 rw [if_pos hs, if_pos h]; rfl
theorem within_f2 (n : Int) : E.dist_within.f n = some (decide (-1048576 ≤ n ∧ n ≤ 1048576)) := by
 unfold E.dist_within.f
 by_cases h : n ≥ -1048576
 ·rw [if_pos h]
  by_cases h2 : n ≤ 1048576
  ·rw [decide_eq_true h2, decide_eq_true ⟨h, h2⟩]
  ·rw [decide_eq_false h2, decide_eq_false (fun h3 => h2 h3.2)]
 ·rw [if_neg h, decide_eq_false (fun h3 => h h3.1)]
def prevv (l : List (Int × ByteArray)) (i : Nat) : Option Int := if i = 0 then none else (l[i - 1]?).map (·.1)
set_option maxRecDepth 100000 in
set_option maxHeartbeats 4000000 in
theorem dcheck_calls (A0 : Option Addr) (c0 : Nat) (l : List (Int × ByteArray)) (w : World) (hr0 : Kd.C KP w A0 l.length l) (hc0 : l.length ≤ c0) (hsz : ∀ x ∈ l, x.2.size ≤ 9223372036854775807) :
  Calls Tryz.prog 20 #[.slice A0 l.length c0] w fun e w' => e = .returned (.int .i64 (dck l)) ∧ Below w.heap.size w w' := by
 have HR0 := Lib.hid hr0; clear hr0
 have HC0 := Lib.hid hc0; clear hc0
 have HSZ := Lib.hid hsz; clear hsz
 by_cases h0 : l.length = 0
 ·have e0 : dck l = 13 := if_pos h0
  rw [e0]
  have hl0 : ((l.length : Int) == 0) = true := by rw [beq_iff_eq]; omega
  clear e0
  go_enter Tryz.func20, Tryz.ntmps20
  go_wp2
  go_ret
  exact ⟨rfl, Below.refl _ _⟩
 ·have hl0 : ((l.length : Int) == 0) = false := by rw [beq_eq_false_iff_ne]; omega
  by_cases h1 : l.length > 4096
  ·have e0 : dck l = 5 := by unfold dck; rw [if_neg h0, if_pos h1]
   rw [e0]
   have h2 : ((4096 : Int) < (l.length : Int)) = True := eq_true (by omega)
   clear e0 h0 h1
   go_enter Tryz.func20, Tryz.ntmps20
   go_wp2
   go_ret
   exact ⟨rfl, Below.refl _ _⟩
  ·have e0 : dck l = dckl none l := by unfold dck; rw [if_neg h0, if_neg h1]
   rw [e0]
   have h2 : ((4096 : Int) < (l.length : Int)) = False := eq_false (by omega)
   have HL := Lib.hid (show l.length ≤ 4096 by omega)
   clear e0 h0 h1
   obtain ⟨r, hr⟩ : ∃ r, r = dckl none l := ⟨_, rfl⟩
   rw [← hr]
   have HRR := Lib.hid hr; clear hr
   go_enter Tryz.func20, Tryz.ntmps20
   go_wp2
   go_loopg [16] l.length (fun g v wr => ∃ i : Nat, v = .int .i64 (i : Int) ∧ g + i = l.length ∧ Hid (r = dckl (prevv l i) (l.drop i)) ∧ Hid (Below w.heap.size w wr))
   case atStart => exact ⟨0, rfl, by omega, HRR, Lib.hid (Below.refl _ _)⟩
   case round =>
    obtain ⟨i, rfl, hg, HR, HB⟩ := hrel
    rcases Nat.eq_zero_or_pos gk with hg0 | hg0
    ·have hc : ((i : Int) < (l.length : Int)) = False := eq_false (by omega)
     have hrr := HR.out
     rw [List.drop_of_length_le (by omega)] at hrr
     replace hrr : r = 0 := hrr
     clear hg hg0
     subst hrr
     go_wp2
     go_ret
     exact ⟨rfl, HB.out⟩
    ·have hil : i < l.length := by omega
     have hc : ((i : Int) < (l.length : Int)) = True := eq_true (by omega)
     have hi0 : ((0 : Int) ≤ (i : Int)) = True := eq_true (by omega)
     obtain ⟨ad, ead, hx0, hx1⟩ := at_KP HR0.out i hil
     cases ead
     replace hx0 := (HB.out.cell (World.block_lt_of_cell? w _ hx0)).trans hx0
     replace hx1 := (HB.out.cell (World.block_lt_of_cell? w _ hx1)).trans hx1
     have hrr := HR.out
     rw [List.drop_eq_getElem_cons hil, dckl] at hrr
     have hsx := HSZ.out _ (List.getElem_mem hil)
     have HX := Lib.hid (show l[i]? = some l[i] from List.getElem?_eq_getElem hil)
     generalize l[i] = x at hx0 hx1 hrr hsx HX
     obtain ⟨n, a⟩ := x
     have HRR2 := Lib.hid hrr; clear hrr
     have HSX := Lib.hid hsx; clear hsx
     simp only at hx0 hx1
     have HG := Lib.hid hg; clear hg hg0
     have HCK := Lib.hid fun W => check_calls a HSX.out W
     have hb5 : Below w.heap.size w (wr.alloc (.cells #[.int .i64 n, .string a] 60)) := HB.out.alloc HB.out.size _
     have c50 := lit0 wr (.int .i64 n) (.string a) 60
     have c51 := lit1 wr (.int .i64 n) (.string a) 60
     have HB5 := Lib.hid hb5; clear hb5
     have HLT := Lib.hid HB.out.size
     have hck0 : (chk a = 0) ∨ (chk a ≠ 0) := Classical.em _
     obtain ⟨ck, hcke⟩ : ∃ ck, ck = chk a := ⟨_, rfl⟩
     rw [← hcke] at HCK hck0
     have HCE := Lib.hid hcke; clear hcke
     have HC50 := Lib.hid c50; clear c50
     have HC51 := Lib.hid c51; clear c51
     rcases hck0 with hck | hck
     ·subst hck
      have hca : chk a = 0 := HCE.out.symm
      have HSG := Lib.hid (sign_f2 a hca HSX.out)
      have hne : ((0 : Int) == 0) = true := rfl
      by_cases hp : ival a ≤ 0
      ·have hr1 : r = 2 := by
        have h3 := HRR2.out
        have e1 : dck1 (prevv l i) (n, a) = 2 := by
         unfold dck1
         simp only
         rw [hca, if_neg (by decide), if_pos (.inl hp)]
        rw [e1, if_pos (by decide)] at h3; exact h3
       have hsl : (sgn (ival a) ≤ 0) = True := eq_true (by unfold sgn; split <;> (try split) <;> omega)
       generalize sgn (ival a) = s at HSG hsl
       subst hr1
       clear hp hca
       go_wp2_with fail
       generalize wr.alloc (.cells #[.int .i64 n, .string a] 60) = w5 at HB5 HC50 HC51 ⊢
       refine (HCK.out w5).mono ?_
       rintro e w6 ⟨rfl, hb6⟩
       have HB6 := Lib.hid (below_then HB5.out HB5.out.size hb6)
       have c60 := (hb6.cell (World.block_lt_of_cell? _ _ HC50.out)).trans HC50.out
       have c61 := (hb6.cell (World.block_lt_of_cell? _ _ HC51.out)).trans HC51.out
       clear hb6
       go_wp2_with fail
       refine (E.dist_sign.calls a s _ HSG.out).mono ?_
       rintro e w7 ⟨rfl, hb7⟩
       have HB7 := Lib.hid (below_then HB6.out HB6.out.size hb7); clear hb7
       go_wp2
       go_ret
       exact ⟨rfl, HB7.out⟩
      ·have hsl : (sgn (ival a) ≤ 0) = False := eq_false (by rw [sgn_pos (by omega)]; decide)
       have HWI := Lib.hid (within_f2 n)
       obtain ⟨bw, hbw⟩ : ∃ bw, bw = decide (-1048576 ≤ n ∧ n ≤ 1048576) := ⟨_, rfl⟩
       rw [← hbw] at HWI
       have hnz : dck1 (prevv l i) (n, a) = if bw = true then (match prevv l i with | none => 0 | some q => if n ≤ q then 9 else 0) else 2 := by
        unfold dck1
        simp only
        rw [hca, if_neg (by decide)]
        by_cases hin : -1048576 ≤ n ∧ n ≤ 1048576
        ·rw [if_neg (fun h => h.elim hp (fun h => h hin)), hbw, decide_eq_true hin, if_pos rfl]
        ·rw [if_pos (.inr hin), hbw, decide_eq_false hin, if_neg (by decide)]
       rw [hnz] at HRR2
       have HP := Lib.hid hp
       clear hbw hnz hp hca
       generalize sgn (ival a) = s at HSG hsl
       cases bw
       ·have hr1 : r = 2 := by
         have h3 := HRR2.out
         rw [if_neg (show ¬ (false = true) by decide), if_pos (by decide)] at h3; exact h3
        subst hr1
        go_wp2_with fail
        generalize wr.alloc (.cells #[.int .i64 n, .string a] 60) = w5 at HB5 HC50 HC51 ⊢
        refine (HCK.out w5).mono ?_
        rintro e w6 ⟨rfl, hb6⟩
        have HB6 := Lib.hid (below_then HB5.out HB5.out.size hb6)
        have c60 := (hb6.cell (World.block_lt_of_cell? _ _ HC50.out)).trans HC50.out
        have c61 := (hb6.cell (World.block_lt_of_cell? _ _ HC51.out)).trans HC51.out
        have HC60 := Lib.hid c60
        clear hb6
        go_wp2_with fail
        refine (E.dist_sign.calls a s _ HSG.out).mono ?_
        rintro e w7 ⟨rfl, hb7⟩
        have HB7 := Lib.hid (below_then HB6.out HB6.out.size hb7)
        have c70 := (hb7.cell (World.block_lt_of_cell? _ _ c60)).trans c60
        clear hb7
        clear c60 c61
        go_wp2_with fail
        refine (E.dist_within.calls n false _ HWI.out).mono ?_
        rintro e w8 ⟨rfl, nd, rfl⟩
        go_wp2
        go_ret
        exact ⟨rfl, pw_below_drewN HB7.out nd⟩
       ·have hr1 : r = if (match prevv l i with | none => (0 : Int) | some q => if n ≤ q then 9 else 0) ≠ 0 then (match prevv l i with | none => (0 : Int) | some q => if n ≤ q then 9 else 0) else dckl (some n) (l.drop (i + 1)) := by
         have h3 := HRR2.out
         rw [if_pos rfl] at h3; exact h3
        rcases Nat.eq_zero_or_pos i with hi | hi
        ·have hr2 : r = dckl (prevv l (i + 1)) (l.drop (i + 1)) := by
          have e1 : prevv l i = none := if_pos hi
          have e2 : prevv l (i + 1) = some n := by unfold prevv; rw [if_neg (by omega), Nat.add_sub_cancel, HX.out]; rfl
          rw [e1] at hr1
          rw [e2]
          simpa using hr1
         have HR2 := Lib.hid hr2
         have hi1 : (0 < i) = False := eq_false (by omega)
         clear hr1 hr2 hi
         go_wp2_with fail
         generalize hw5 : wr.alloc (.cells #[.int .i64 n, .string a] 60) = w5 at HB5 HC50 HC51 ⊢
         clear hw5
         refine (HCK.out w5).mono ?_
         rintro e w6 ⟨rfl, hb6⟩
         have HB6 := Lib.hid (below_then HB5.out HB5.out.size hb6)
         have c60 := (hb6.cell (World.block_lt_of_cell? _ _ HC50.out)).trans HC50.out
         have c61 := (hb6.cell (World.block_lt_of_cell? _ _ HC51.out)).trans HC51.out
         clear hb6
         go_wp2_with fail
         refine (E.dist_sign.calls a s _ HSG.out).mono ?_
         rintro e w7 ⟨rfl, hb7⟩
         have HB7 := Lib.hid (below_then HB6.out HB6.out.size hb7)
         have c70 := (hb7.cell (World.block_lt_of_cell? _ _ c60)).trans c60
         clear hb7
         clear c60 c61
         go_wp2_with fail
         refine (E.dist_within.calls n true _ HWI.out).mono ?_
         rintro e w8 ⟨rfl, nd, rfl⟩
         go_wp2
         go_quiet (fail)
         go_wp2
         obtain ⟨g', rfl⟩ : ∃ g', gk = g' + 1 := ⟨gk - 1, by have := HG.out; omega⟩
         go_roundg g'
         case measure => omega
         case rel => exact ⟨i + 1, by have := HL.out; rw [IntWalk.wrap64_in ((i : Int) + 1) (by omega)]; rfl, by have := HG.out; omega, HR2, Lib.hid (pw_below_drewN HB7.out _)⟩
        ·obtain ⟨m, hm⟩ : ∃ m, m = i - 1 := ⟨_, rfl⟩
         have hkl : m < l.length := by omega
         obtain ⟨ad2, ead2, hy0, hy1⟩ := at_KP HR0.out m hkl
         cases ead2
         clear hy1
         have hpv : prevv l i = some l[m].1 := by unfold prevv; rw [if_neg (by omega), ← hm, List.getElem?_eq_getElem hkl]; rfl
         have e2 : prevv l (i + 1) = some n := by unfold prevv; rw [if_neg (by omega), Nat.add_sub_cancel, HX.out]; rfl
         rw [hpv] at hr1
         simp only at hr1
         generalize l[m].1 = q at hy0 hr1 hpv
         clear hpv
         have hi1 : (0 < i) = True := eq_true (by omega)
         have hi2 : ((m : Int) < (l.length : Int)) = True := eq_true (by omega)
         have hi3 : ((0 : Int) ≤ (m : Int)) = True := eq_true (by omega)
         have hw : IntKind.i64.wrap ((i : Int) - 1) = (m : Int) := by rw [IntKind.wrap_i64]; have := HL.out; omega
         have HM := Lib.hid hm; clear hm hkl
         by_cases hq : n ≤ q
         ·have hr2 : r = 9 := by rw [if_pos hq, if_pos (by decide)] at hr1; exact hr1
          have hq' := eq_true hq
          subst hr2
          clear hr1 hi hq e2
          go_wp2_with fail
          generalize hw5 : wr.alloc (.cells #[.int .i64 n, .string a] 60) = w5 at HB5 HC50 HC51 ⊢
          clear hw5
          refine (HCK.out w5).mono ?_
          rintro e w6 ⟨rfl, hb6⟩
          have HB6 := Lib.hid (below_then HB5.out HB5.out.size hb6)
          have c60 := (hb6.cell (World.block_lt_of_cell? _ _ HC50.out)).trans HC50.out
          have c61 := (hb6.cell (World.block_lt_of_cell? _ _ HC51.out)).trans HC51.out
          clear hb6
          go_wp2_with fail
          refine (E.dist_sign.calls a s _ HSG.out).mono ?_
          rintro e w7 ⟨rfl, hb7⟩
          have HB7 := Lib.hid (below_then HB6.out HB6.out.size hb7)
          have c70 := (hb7.cell (World.block_lt_of_cell? _ _ c60)).trans c60
          clear hb7
          clear c60 c61
          go_wp2_with fail
          refine (E.dist_within.calls n true _ HWI.out).mono ?_
          rintro e w8 ⟨rfl, nd, rfl⟩
          have hy7 := (HB7.out.cell (World.block_lt_of_cell? w _ hy0)).trans hy0
          have HB8 := Lib.hid (pw_below_drewN HB7.out nd)
          replace c70 : (w7.drewN nd).cell? ⟨wr.heap.size, 0, none⟩ = some (.int .i64 n) := c70
          replace hy7 : (w7.drewN nd).cell? (ad.add (m * 2)) = some (.int .i64 q) := hy7
          generalize w7.drewN nd = w8 at c70 hy7 HB8 ⊢
          go_wp2
          go_quiet (fail)
          go_wp2
          go_ret
          exact ⟨rfl, pw_below_drewN HB8.out _⟩
         ·have hr2 : r = dckl (prevv l (i + 1)) (l.drop (i + 1)) := by
           rw [if_neg hq, if_neg (fun h => h rfl), ← e2] at hr1; exact hr1
          have HR2 := Lib.hid hr2
          have hq' := eq_false hq
          clear hr1 hr2 hi hq e2
          go_wp2_with fail
          generalize hw5 : wr.alloc (.cells #[.int .i64 n, .string a] 60) = w5 at HB5 HC50 HC51 ⊢
          clear hw5
          refine (HCK.out w5).mono ?_
          rintro e w6 ⟨rfl, hb6⟩
          have HB6 := Lib.hid (below_then HB5.out HB5.out.size hb6)
          have c60 := (hb6.cell (World.block_lt_of_cell? _ _ HC50.out)).trans HC50.out
          have c61 := (hb6.cell (World.block_lt_of_cell? _ _ HC51.out)).trans HC51.out
          clear hb6
          go_wp2_with fail
          refine (E.dist_sign.calls a s _ HSG.out).mono ?_
          rintro e w7 ⟨rfl, hb7⟩
          have HB7 := Lib.hid (below_then HB6.out HB6.out.size hb7)
          have c70 := (hb7.cell (World.block_lt_of_cell? _ _ c60)).trans c60
          clear hb7
          clear c60 c61
          go_wp2_with fail
          refine (E.dist_within.calls n true _ HWI.out).mono ?_
          rintro e w8 ⟨rfl, nd, rfl⟩
          have hy7 := (HB7.out.cell (World.block_lt_of_cell? w _ hy0)).trans hy0
          have HB8 := Lib.hid (pw_below_drewN HB7.out nd)
          replace c70 : (w7.drewN nd).cell? ⟨wr.heap.size, 0, none⟩ = some (.int .i64 n) := c70
          replace hy7 : (w7.drewN nd).cell? (ad.add (m * 2)) = some (.int .i64 q) := hy7
          generalize w7.drewN nd = w8 at c70 hy7 HB8 ⊢
          go_wp2
          go_quiet (fail)
          go_wp2
          obtain ⟨g', rfl⟩ : ∃ g', gk = g' + 1 := ⟨gk - 1, by have := HG.out; omega⟩
          go_roundg g'
          case measure => omega
          case rel => exact ⟨i + 1, by have := HL.out; rw [IntWalk.wrap64_in ((i : Int) + 1) (by omega)]; rfl, by have := HG.out; omega, HR2, Lib.hid (pw_below_drewN HB8.out _)⟩
     ·have hr1 : r = ck := by
       have h3 := HRR2.out
       have h4 := HCE.out
       have e1 : dck1 (prevv l i) (n, a) = ck := by
        unfold dck1
        simp only
        rw [← h4, if_pos hck]
       rw [e1, if_pos hck] at h3; exact h3
      have hne : (ck == 0) = false := beq_eq_false_iff_ne.2 hck
      subst hr1
      clear hck
      go_wp2_with fail
      generalize wr.alloc (.cells #[.int .i64 n, .string a] 60) = w5 at HB5 HC50 HC51 ⊢
      refine (HCK.out w5).mono ?_
      rintro e w6 ⟨rfl, hb6⟩
      have HB6 := Lib.hid (below_then HB5.out HB5.out.size hb6); clear hb6
      go_wp2
      go_ret
      exact ⟨rfl, HB6.out⟩
end Go.Proofs.YtkdpcgmnkifbbaaGreatDoor
end
section
namespace Go.Proofs.YtkdpcgmnkifbbaaGreatDoor
open Go.RowKit Go.Proofs.YtkdpcgmnkifbbaaGreatDoorW.PrintWords Go.Proofs.YtkdpcgmnkifbbaaGreatDoorW.PrintMore
set_option maxRecDepth 100000 in
set_option maxHeartbeats 4000000 in
theorem weight_calls (n : Int) (a : ByteArray) (w : World) :
  Calls Tryz.prog 41 #[.agg #[.int .i64 n, .string a]] w (TwoPost w (a, 0)) := by
 go_enter Tryz.func41, Tryz.ntmps41
 go_wp2
 go_ret2
 exact ⟨rfl, (Below.refl _ _).alloc (Nat.le_refl _) _⟩
def pick (lo hi n u : Int) : Int := if n < lo ∨ hi < n then 0 else u
set_option maxRecDepth 100000 in
set_option maxHeartbeats 4000000 in
theorem pick_calls (c : Nat) (lo hi n : Int) (a : ByteArray) (w : World) (h0 : w.cell? ⟨c, 0, none⟩ = some (.int .i64 lo)) (h1 : w.cell? ⟨c, 1, none⟩ = some (.int .i64 hi)) (ha : chk a = 0) :
  Calls Tryz.prog 34 #[.agg #[.int .i64 n, .string a], .pointer (some ⟨c, 0, none⟩)] w (TwoPost w (itx (pick lo hi n (ival a)), 0)) := by
 have ea := (chk_zero ha).1
 have hc : c < w.heap.size := World.block_lt_of_cell? _ _ h0
 have k0 : (w.alloc (.cells #[.int .i64 n, .string a] 60)).cell? ⟨c, 0, none⟩ = some (.int .i64 lo) := (((Below.refl w.heap.size w).alloc (Nat.le_refl _) _).cell hc).trans h0
 have k1 : (w.alloc (.cells #[.int .i64 n, .string a] 60)).cell? ⟨c, 1, none⟩ = some (.int .i64 hi) := (((Below.refl w.heap.size w).alloc (Nat.le_refl _) _).cell hc).trans h1
 by_cases hl : n < lo
 ·have e : pick lo hi n (ival a) = 0 := if_pos (.inl hl)
  rw [e, itx_zero]
  have hl' := eq_true hl
  clear hl e ea ha
  go_enter Tryz.func34, Tryz.ntmps34
  go_wp2
  go_ret2
  exact ⟨rfl, (Below.refl _ _).alloc (Nat.le_refl _) _⟩
 ·by_cases hh : hi < n
  ·have e : pick lo hi n (ival a) = 0 := if_pos (.inr hh)
   rw [e, itx_zero]
   have hl' := eq_false hl
   have hh' := eq_true hh
   clear hl hh e ea ha
   go_enter Tryz.func34, Tryz.ntmps34
   go_wp2
   go_ret2
   exact ⟨rfl, (Below.refl _ _).alloc (Nat.le_refl _) _⟩
  ·have e : pick lo hi n (ival a) = ival a := if_neg (fun h => h.elim hl hh)
   rw [e, ← ea]
   have hl' := eq_false hl
   have hh' := eq_false hh
   clear hl hh e ea ha
   go_enter Tryz.func34, Tryz.ntmps34
   go_wp2
   go_ret2
   exact ⟨rfl, (Below.refl _ _).alloc (Nat.le_refl _) _⟩
set_option maxRecDepth 100000 in
set_option maxHeartbeats 4000000 in
theorem mom_calls (c pw : Nat) (n : Int) (a : ByteArray) (w : World) (h0 : w.cell? ⟨c, 0, none⟩ = some (.int .i64 pw)) (hp : pw ≤ 1000) (ha : chk a = 0) (hn0 : -9223372036854775808 < n) (hn1 : n < 9223372036854775807) (hf : ∀ i, i ≤ pw → fits (ival a * n ^ i)) (ht : Tabs w) :
  Calls Tryz.prog 77 #[.agg #[.int .i64 n, .string a], .pointer (some ⟨c, 0, none⟩)] w (TwoPost w (itx (ival a * n ^ pw), 0)) := by
 have hb1 : Below w.heap.size w (w.alloc (.cells #[.int .i64 n, .string a] 60)) := (Below.refl w.heap.size w).alloc (Nat.le_refl _) _
 have k0 : (w.alloc (.cells #[.int .i64 n, .string a] 60)).cell? ⟨c, 0, none⟩ = some (.int .i64 pw) := (hb1.cell (World.block_lt_of_cell? _ _ h0)).trans h0
 have c0 := lit0 w (.int .i64 n) (.string a) 60
 have HB1 := Lib.hid hb1; clear hb1 h0
 have HT := Lib.hid ht; clear ht
 have HF := Lib.hid hf; clear hf
 have HA := Lib.hid ha; clear ha
 have HN := Lib.hid (And.intro hn0 hn1); clear hn0 hn1
 have HP := Lib.hid hp; clear hp
 go_enter Tryz.func77, Tryz.ntmps77
 go_wp2
 generalize w.alloc (.cells #[.int .i64 n, .string a] 60) = w1 at k0 c0 HB1 ⊢
 have HC0 := Lib.hid c0; clear c0 k0
 go_loopg [5, 10] pw (fun g v5 v10 wr => ∃ i : Nat, v5 = .string (itx (ival a * n ^ i)) ∧ v10 = .int .i64 (i : Int) ∧ g + i = pw ∧ Hid (Below w1.heap.size w1 wr))
 case atStart => exact ⟨0, by rw [Int.pow_zero, Int.mul_one, ← (chk_zero HA.out).1], rfl, by omega, Lib.hid (Below.refl _ _)⟩
 case round =>
  obtain ⟨i, rfl, rfl, hg, HB⟩ := hrel
  rcases Nat.eq_zero_or_pos gk with hg0 | hg0
  ·have hip : i = pw := by omega
   have hc : ((i : Int) < (pw : Int)) = False := eq_false (by omega)
   have hc2 : (i < pw) = False := eq_false (by omega)
   have HIP := Lib.hid hip
   clear hip hg hg0
   go_wp2
   go_ret2
   exact ⟨by rw [HIP.out]; rfl, below_then HB1.out HB1.out.size HB.out⟩
  ·have hip : i < pw := by omega
   have hc : ((i : Int) < (pw : Int)) = True := eq_true (by omega)
   have hc2 : (i < pw) = True := eq_true (by omega)
   have hcr := (HB.out.cell (World.block_lt_of_cell? _ _ HC0.out)).trans HC0.out
   have f1 := HF.out i (by omega)
   have f2 := HF.out (i + 1) (by omega)
   rw [Int.pow_succ, ← Int.mul_assoc] at f2
   have hsz : fits n := fits_small (by have := HN.out; omega)
   have hmul : two (itx (ival a * n ^ i)) (itx n) (kept (ival (itx (ival a * n ^ i)) * ival (itx n))) = (itx (ival a * n ^ i * n), 0) := by
    rw [two_go (chk_fits f1) (chk_fits hsz), ival_itx, ival_itx, kept_fits f2]
   have HMUL := Lib.hid hmul; clear hmul
   have HS1 := Lib.hid (Nat.le_trans (chk_size (chk_fits f1)) (show 1025 ≤ 9223372036854775807 by decide))
   have HS2 := Lib.hid (Nat.le_trans (chk_size (chk_fits hsz)) (show 1025 ≤ 9223372036854775807 by decide))
   have HE := Lib.hid (show ival a * n ^ i * n = ival a * n ^ (i + 1) by rw [Int.pow_succ, Int.mul_assoc])
   have HG := Lib.hid hg; clear hg
   generalize itx (ival a * n ^ i) = s at HMUL HS1
   have HIP := Lib.hid hip
   clear f1 f2 hsz hip hg0
   go_wp2_with fail
   refine (C.whole_Of.calls n (itx n) wr (of_f n (Int.le_of_lt HN.out.1) (Int.le_of_lt HN.out.2)) (Aside0.mk ((HT.out.below HB1.out).below HB.out))).mono ?_
   rintro e w3 ⟨rfl, hb3⟩
   have HB3 := Lib.hid (below_then HB.out HB.out.size hb3); clear hb3
   go_wp2_with fail
   have hm := mul_calls s (itx n) HS1.out HS2.out w3 ((HT.out.below HB1.out).below HB3.out)
   rw [HMUL.out, HE.out] at hm
   refine hm.mono ?_
   rintro e w4 ⟨rfl, hb4⟩
   have HB4 := Lib.hid (below_then HB3.out HB3.out.size hb4); clear hb4 hm
   go_wp2
   obtain ⟨g', rfl⟩ : ∃ g', gk = g' + 1 := ⟨gk - 1, by have := HG.out; have := HIP.out; omega⟩
   go_roundg g'
   case measure => omega
   case rel => exact ⟨i + 1, rfl, by have := HP.out; have := HG.out; rw [IntWalk.wrap64_in ((i : Int) + 1) (by omega)]; rfl, by have := HG.out; omega, HB4⟩
end Go.Proofs.YtkdpcgmnkifbbaaGreatDoor
end
