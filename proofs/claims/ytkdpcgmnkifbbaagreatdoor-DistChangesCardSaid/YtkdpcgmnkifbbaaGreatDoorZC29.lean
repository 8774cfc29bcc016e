/- Joined by a program of this session out of its texts, with only what the last theorem needs: Ro De DO. No conditions but those stated. -/
import Derived.Test.YtkdpcgmnkifbbaaGreatDoorZC28
import Derived.Test.YtkdpcgmnkifbbaaGreatDoorZC25
import Derived.Test.YtkdpcgmnkifbbaaGreatDoorZC26
import Derived.Test.YtkdpcgmnkifbbaaGreatDoorZC07
set_option linter.unusedVariables false
set_option linter.unusedSimpArgs false
namespace Go.Proofs.YtkdpcgmnkifbbaaGreatDoorW.PrintMore
end Go.Proofs.YtkdpcgmnkifbbaaGreatDoorW.PrintMore
namespace Go.Proofs.YtkdpcgmnkifbbaaGreatDoorW.PrintWords
end Go.Proofs.YtkdpcgmnkifbbaaGreatDoorW.PrintWords
section
namespace Go.Proofs.YtkdpcgmnkifbbaaGreatDoor
open Go.RowKit Go.Proofs.YtkdpcgmnkifbbaaGreatDoorW.PrintWords Go.Proofs.YtkdpcgmnkifbbaaGreatDoorW.PrintMore
structure Bd (e : Nat) (q : Rat) : Prop where
 num : q.num.natAbs < 10 ^ e
 den : q.den < 10 ^ e
theorem fits_exp2 {v : Int} {e : Nat} (h : v.natAbs < 10 ^ e) (he : e ≤ 1024) : fits v := Nat.lt_of_lt_of_le h (Nat.pow_le_pow_right (by decide) he)
theorem Bd.mono {a b : Nat} {q : Rat} (h : Bd a q) (hab : a ≤ b) : Bd b q := ⟨Nat.lt_of_lt_of_le h.num (Nat.pow_le_pow_right (by decide) hab), Nat.lt_of_lt_of_le h.den (Nat.pow_le_pow_right (by decide) hab)⟩
theorem bd_divInt {u v : Int} {e : Nat} (hv : v ≠ 0) (hu : u.natAbs < 10 ^ e) (hv2 : v.natAbs < 10 ^ e) : Bd e (Rat.divInt u v) :=
 ⟨Nat.lt_of_le_of_lt (divInt_le hv).1 hu, Nat.lt_of_le_of_lt (divInt_le hv).2 hv2⟩
theorem mul_lt_pow {u v : Int} {a b : Nat} (hu : u.natAbs < 10 ^ a) (hv : v.natAbs < 10 ^ b) : (u * v).natAbs < 10 ^ (a + b) := by
 rw [Int.natAbs_mul, Nat.pow_add]
 exact Nat.mul_lt_mul_of_lt_of_le hu (Nat.le_of_lt hv) (Nat.pow_pos (by decide))
theorem add_lt_pow {u v : Int} {a : Nat} (hu : u.natAbs < 10 ^ a) (hv : v.natAbs < 10 ^ a) : (u + v).natAbs < 10 ^ (a + 1) := by
 rw [Nat.pow_succ]
 have := Int.natAbs_add_le u v
 generalize 10 ^ a = p at *
 omega
theorem Bd.den' {a : Nat} {q : Rat} (h : Bd a q) : ((q.den : Nat) : Int).natAbs < 10 ^ a := by rw [Int.natAbs_natCast]; exact h.den
theorem bd_mul {a b : Nat} {p q : Rat} (hp : Bd a p) (hq : Bd b q) : Bd (a + b) (p * q) := by
 rw [← rat_mul]
 exact bd_divInt (den_ne p q) (mul_lt_pow hp.num hq.num) (mul_lt_pow hp.den' hq.den')
theorem Bd.rchk {a : Nat} {q : Rat} (h : Bd a q) (ha : a ≤ 1024) : Go.Proofs.YtkdpcgmnkifbbaaGreatDoor.rchk (rtx q) = 0 := by
 rw [rchk_rtx, if_pos ⟨fits_exp2 h.num ha, fits_exp2 h.den' ha⟩]
theorem rtwo_rtx {a b : Nat} {p q : Rat} (hp : Bd a p) (hq : Bd b q) (ha : a ≤ 1024) (hb : b ≤ 1024) (r : ByteArray × Int) : rtwo (rtx p) (rtx q) r = r := by
 unfold rtwo
 rw [hp.rchk ha, hq.rchk hb, if_neg (by decide), if_neg (by decide)]
theorem mulR {a b : Nat} {p q : Rat} (hp : Bd a p) (hq : Bd b q) (hab : a + b ≤ 1024) :
  rtwo (rtx p) (rtx q) (madeR (rnum (rtx p) * rnum (rtx q)) (rden (rtx p) * rden (rtx q)) (fits (rnum (rtx p) * rnum (rtx q)) ∧ fits (rden (rtx p) * rden (rtx q)))) = (rtx (p * q), 0) := by
 rw [rtwo_rtx hp hq (by omega) (by omega), rnum_rtx, rnum_rtx, rden_rtx, rden_rtx]
 unfold madeR
 rw [if_pos ⟨fits_exp2 (mul_lt_pow hp.num hq.num) hab, fits_exp2 (mul_lt_pow hp.den' hq.den') hab⟩, rat_mul]
theorem subR {a b : Nat} {p q : Rat} (hp : Bd a p) (hq : Bd b q) (hab : a + b + 1 ≤ 1024) :
  rtwo (rtx p) (rtx q) (madeR (rnum (rtx p) * rden (rtx q) - rnum (rtx q) * rden (rtx p)) (rden (rtx p) * rden (rtx q)) (fits (rnum (rtx p) * rden (rtx q)) ∧ fits (rnum (rtx q) * rden (rtx p)) ∧ fits (rnum (rtx p) * rden (rtx q) - rnum (rtx q) * rden (rtx p)) ∧ fits (rden (rtx p) * rden (rtx q)))) = (rtx (p - q), 0) := by
 rw [rtwo_rtx hp hq (by omega) (by omega), rnum_rtx, rnum_rtx, rden_rtx, rden_rtx]
 have h1 := mul_lt_pow hp.num hq.den'
 have h2 := mul_lt_pow hq.num hp.den'
 have h3 : (p.num * q.den - q.num * p.den).natAbs < 10 ^ (a + b + 1) := by
  rw [Int.sub_eq_add_neg]; exact add_lt_pow h1 (by rw [Int.natAbs_neg, Nat.add_comm]; exact h2)
 unfold madeR
 rw [if_pos ⟨fits_exp2 h1 (by omega), fits_exp2 h2 (by omega), fits_exp2 h3 hab, fits_exp2 (mul_lt_pow hp.den' hq.den') (by omega)⟩, rat_sub]
theorem cmpR_rtx {a b : Nat} {p q : Rat} (hp : Bd a p) (hq : Bd b q) (hab : a + b ≤ 1024) : cmpR (rtx p) (rtx q) = (cmpq p q, 0) := by
 unfold cmpR cmpq
 rw [hp.rchk (by omega), hq.rchk (by omega), if_neg (by decide), if_neg (by decide), rnum_rtx, rnum_rtx, rden_rtx, rden_rtx]
 have h1 := mul_lt_pow hp.num hq.den'
 have h2 := mul_lt_pow hq.num hp.den'
 rw [if_pos ⟨fits_exp2 h1 (by omega), fits_exp2 h2 (by omega)⟩]
theorem Bd.len {a : Nat} {q : Rat} (h : Bd a q) (ha : 0 < a) {n : Nat} (hn : a ≤ n) : Len n q := ⟨Nat.le_trans (size_of_lt h.num ha) hn, Nat.le_trans (size_of_lt h.den ha) hn⟩
theorem rtx_size2 {a : Nat} {q : Rat} (h : Bd a q) (ha : 0 < a) : (rtx q).size ≤ 2 * a + 3 := rtx_size_le (h.len ha (Nat.le_refl _))
end Go.Proofs.YtkdpcgmnkifbbaaGreatDoor
end
section
namespace Go.Proofs.YtkdpcgmnkifbbaaGreatDoor
open Go.RowKit Go.Proofs.YtkdpcgmnkifbbaaGreatDoorW.PrintWords Go.Proofs.YtkdpcgmnkifbbaaGreatDoorW.PrintMore
def momq (pw : Nat) (l : List (Int × ByteArray)) : Rat := Rat.divInt (sumf (fM pw) l) (totw l)
def varq (l : List (Int × ByteArray)) : Rat := momq 2 l - momq 1 l * momq 1 l
def varR (l : List (Int × ByteArray)) : ByteArray × Int := distR l (rtx (varq l), 0)
theorem Gd.tot {l : List (Int × ByteArray)} (h : Gd l) : (totw l).natAbs < 10 ^ 77 := sum77 h.len h.fW
theorem Gd.tot0 {l : List (Int × ByteArray)} (h : Gd l) : totw l ≠ 0 := by have := sumf_pos h.ne h.pos; omega
theorem Gd.mom {l : List (Int × ByteArray)} (h : Gd l) {pw : Nat} (hp : pw ≤ 2) : Bd 77 (momq pw l) := bd_divInt h.tot0 (sum77 h.len (h.fM hp)) h.tot
theorem Gd.prob {l : List (Int × ByteArray)} (h : Gd l) (lo hi : Int) : Bd 77 (probq l lo hi) := bd_divInt h.tot0 (sum77 h.len (h.fP lo hi)) h.tot
theorem rsz {a : Nat} {q : Rat} (h : Bd a q) (ha : 0 < a) (hb : a ≤ 1000000) : (rtx q).size ≤ 4611686018427387904 := Nat.le_trans (rtx_size2 h ha) (by omega)
set_option maxRecDepth 100000 in
set_option maxHeartbeats 4000000 in
theorem var_calls (A0 : Option Addr) (c0 : Nat) (l : List (Int × ByteArray)) (w : World) (hr0 : Kd.C KP w A0 l.length l) (hc0 : l.length ≤ c0) (hok : okD l) (ht : Tabs w) :
  Calls Tryz.prog 18 #[.slice A0 l.length c0] w (TwoPost w (varR l)) := by
 have ME := Lib.hid (mean_calls A0 c0 l w hr0 hc0 hok ht)
 have HR0 := Lib.hid hr0; clear hr0
 have HC0 := Lib.hid hc0; clear hc0
 have HT := Lib.hid ht; clear ht
 by_cases h0 : dck l = 0
 ·have hgd := gd_of h0 (hok.2 h0); clear hok
  have em : meanR l = (rtx (momq 1 l), 0) := if_pos h0
  have e0 : varR l = (rtx (varq l), 0) := if_pos h0
  rw [em] at ME
  rw [e0]
  have b1 := hgd.mom (pw := 1) (by decide)
  have b2 := hgd.mom (pw := 2) (by decide)
  have b3 := bd_mul b1 b1
  have hmul := mulR b1 b1 (by decide)
  have hsub := subR b2 b3 (by decide)
  have z1 := rsz b1 (by decide) (by decide)
  have z2 := rsz b2 (by decide) (by decide)
  have z3 := rsz b3 (by decide) (by decide)
  have MU := Lib.hid fun (W : World) (hw : Tabs W) => (show Calls _ _ _ W (TwoPost W (rtx (momq 1 l * momq 1 l), 0)) from by have := rMul_calls _ _ z1 z1 W hw; rw [hmul] at this; exact this)
  have SU := Lib.hid fun (W : World) (hw : Tabs W) => (show Calls _ _ _ W (TwoPost W (rtx (varq l), 0)) from by have := rSub_calls _ _ z2 z3 W hw; rw [hsub] at this; exact this)
  have SH := Lib.hid fun (c : Nat) (W : World) (hb : Below w.heap.size w W) (k0 : W.cell? ⟨c, 0, none⟩ = some (.int .i64 (2 : Nat))) => share_M c 2 A0 c0 l W (Kd.C_below HR0.out hb) HC0.out hgd k0 (by decide) (HT.out.below hb)
  clear h0 em e0 b1 b2 b3 hmul hsub z1 z2 z3 hgd
  go_enter Tryz.func18, Tryz.ntmps18
  go_wp2_with fail
  refine ME.out.mono ?_
  rintro e w1 ⟨rfl, hb1⟩
  have HB1 := Lib.hid hb1; clear hb1
  go_wp2_with fail
  refine (moment_calls 2 w1).mono ?_
  rintro e w2 ⟨rfl, k0, hb2⟩
  have HB2 := Lib.hid (below_then HB1.out HB1.out.size hb2); clear hb2
  have K0 := Lib.hid k0; clear k0
  go_wp2_with fail
  refine (SH.out w1.heap.size w2 HB2.out K0.out).mono ?_
  rintro e w3 ⟨rfl, hb3⟩
  have HB3 := Lib.hid (below_then HB2.out HB2.out.size hb3); clear hb3
  go_wp2_with fail
  refine (MU.out w3 (HT.out.below HB3.out)).mono ?_
  rintro e w4 ⟨rfl, hb4⟩
  have HB4 := Lib.hid (below_then HB3.out HB3.out.size hb4); clear hb4
  go_wp2_with fail
  refine (SU.out w4 (HT.out.below HB4.out)).mono ?_
  rintro e w5 ⟨rfl, hb5⟩
  have HB5 := Lib.hid (below_then HB4.out HB4.out.size hb5); clear hb5
  go_wp2
  go_ret2
  exact ⟨rfl, HB5.out⟩
 ·have em : meanR l = (⟨#[]⟩, dck l) := if_neg h0
  have e0 : varR l = (⟨#[]⟩, dck l) := if_neg h0
  rw [em] at ME
  rw [e0]
  have hne : (dck l == 0) = false := beq_eq_false_iff_ne.2 h0
  clear hok h0 e0 em
  generalize dck l = d at ME hne ⊢
  go_enter Tryz.func18, Tryz.ntmps18
  go_wp2_with fail
  refine ME.out.mono ?_
  rintro e w1 ⟨rfl, hb1⟩
  have HB1 := Lib.hid hb1; clear hb1
  go_wp2
  go_ret2
  exact ⟨rfl, HB1.out⟩
end Go.Proofs.YtkdpcgmnkifbbaaGreatDoor
end
section
namespace Go.Proofs.YtkdpcgmnkifbbaaGreatDoor.D
open Go.RowKit Go.Proofs.YtkdpcgmnkifbbaaGreatDoorW.PrintWords Go.Proofs.YtkdpcgmnkifbbaaGreatDoorW.PrintMore
theorem canI {a : ByteArray} (h : form a.data.toList = true) : itx (ival a) = a := (form_eq h).symm
def okI (a : ByteArray) : Prop := form a.data.toList = true ∧ (dtx (ival a).natAbs).size ≤ 30000
instance (a : ByteArray) : Decidable (okI a) := inferInstanceAs (Decidable (_ ∧ _))
def okR (a : ByteArray) : Prop := rtx (rval a) = a ∧ (dtx (rval a).num.natAbs).size ≤ 15000 ∧ (dtx (rval a).den).size ≤ 15000
instance (a : ByteArray) : Decidable (okR a) := inferInstanceAs (Decidable (_ ∧ _))
theorem okR.len {a : ByteArray} (h : okR a) : Len 15000 (rval a) := ⟨h.2.1, h.2.2⟩
theorem okI_itx {v : Int} (h : (dtx v.natAbs).size ≤ 30000) : okI (itx v) := ⟨form_itx v, by rw [ival_itx]; exact h⟩
theorem le90 {a : ByteArray} (h : okI a) : (dtx (ival a).natAbs).size ≤ 90000 := Nat.le_trans h.2 (by decide)
theorem le40 {a : ByteArray} (h : okI a) : (dtx (ival a).natAbs).size ≤ 40000 := Nat.le_trans h.2 (by decide)
def metrolabref01_Check.f (a0 : ByteArray) : Option (Int) := if a0.size ≤ 4611686018427387900 then some (chk a0) else none
theorem metrolabref01_Check.calls (a0 : ByteArray) (r : Int) (w : World) (h : metrolabref01_Check.f a0 = some r) :
  Calls Tryz.prog 51 #[.string a0] w fun e w' => e = .returned (.int .i64 r) ∧ Below w.heap.size w w' := by
 unfold metrolabref01_Check.f at h
 split at h
 ·rename_i h1
  obtain ⟨k, hk⟩ := (ref_check a0 (by omega)).get
  rw [Option.some.inj h] at hk
  refine (R.metrolabref01_Check.calls k a0 r w hk).mono ?_
  rintro e w' ⟨rfl, n, rfl⟩
  exact ⟨rfl, pw_below_drewN (Below.refl _ _) n⟩
 ·cases h
def metrolabref01_Of.f (a0 : Int) : Option (ByteArray) := if -9223372036854775808 < a0 ∧ a0 < 9223372036854775808 then some (itx a0) else none
theorem metrolabref01_Of.calls (a0 : Int) (r : ByteArray) (w : World) (h : metrolabref01_Of.f a0 = some r) :
  Calls Tryz.prog 106 #[.int .i64 a0] w fun e w' => e = .returned (.string r) ∧ Below w.heap.size w w' := by
 unfold metrolabref01_Of.f at h
 split at h
 ·rename_i h1
  obtain ⟨k, hk⟩ := (ref_of a0 h1.1 h1.2).get
  rw [Option.some.inj h] at hk
  exact R.metrolabref01_Of.calls k a0 r w hk
 ·cases h
def metrolabref01_Plus.f (a0 : ByteArray) (a1 : ByteArray) : Option (ByteArray) := if okI a0 ∧ okI a1 then some (itx (ival a0 + ival a1)) else none
theorem metrolabref01_Plus.calls (a0 : ByteArray) (a1 : ByteArray) (r : ByteArray) (w : World) (h : metrolabref01_Plus.f a0 a1 = some r) :
  Calls Tryz.prog 76 #[.string a0, .string a1] w fun e w' => e = .returned (.string r) ∧ Below w.heap.size w w' := by
 unfold metrolabref01_Plus.f at h
 split at h
 ·rename_i h1
  obtain ⟨k, hk⟩ := (show Runs (fun k => R.metrolabref01_Plus.f k a0 a1) _ from by have := ref_plus (ival a0) (ival a1) (le90 h1.1) (le90 h1.2); rwa [canI h1.1.1, canI h1.2.1] at this).get
  rw [Option.some.inj h] at hk
  exact R.metrolabref01_Plus.calls k a0 a1 r w hk
 ·cases h
def metrolabref01_Minus.f (a0 : ByteArray) (a1 : ByteArray) : Option (ByteArray) := if okI a0 ∧ okI a1 then some (itx (ival a0 - ival a1)) else none
theorem metrolabref01_Minus.calls (a0 : ByteArray) (a1 : ByteArray) (r : ByteArray) (w : World) (h : metrolabref01_Minus.f a0 a1 = some r) :
  Calls Tryz.prog 91 #[.string a0, .string a1] w fun e w' => e = .returned (.string r) ∧ Below w.heap.size w w' := by
 unfold metrolabref01_Minus.f at h
 split at h
 ·rename_i h1
  obtain ⟨k, hk⟩ := (show Runs (fun k => R.metrolabref01_Minus.f k a0 a1) _ from by have := ref_minus (ival a0) (ival a1) (le90 h1.1) (le90 h1.2); rwa [canI h1.1.1, canI h1.2.1] at this).get
  rw [Option.some.inj h] at hk
  exact R.metrolabref01_Minus.calls k a0 a1 r w hk
 ·cases h
def metrolabref01_Times.f (a0 : ByteArray) (a1 : ByteArray) : Option (ByteArray) := if okI a0 ∧ okI a1 then some (itx (ival a0 * ival a1)) else none
theorem metrolabref01_Times.calls (a0 : ByteArray) (a1 : ByteArray) (r : ByteArray) (w : World) (h : metrolabref01_Times.f a0 a1 = some r) :
  Calls Tryz.prog 97 #[.string a0, .string a1] w fun e w' => e = .returned (.string r) ∧ Below w.heap.size w w' := by
 unfold metrolabref01_Times.f at h
 split at h
 ·rename_i h1
  obtain ⟨k, hk⟩ := (show Runs (fun k => R.metrolabref01_Times.f k a0 a1) _ from by have := ref_times (ival a0) (ival a1) (le90 h1.1) (le90 h1.2); rwa [canI h1.1.1, canI h1.2.1] at this).get
  rw [Option.some.inj h] at hk
  exact R.metrolabref01_Times.calls k a0 a1 r w hk
 ·cases h
def metrolabref01_Order.f (a0 : ByteArray) (a1 : ByteArray) : Option (Int) := if okI a0 ∧ okI a1 then some (cmpv (ival a0) (ival a1)) else none
theorem metrolabref01_Order.calls (a0 : ByteArray) (a1 : ByteArray) (r : Int) (w : World) (h : metrolabref01_Order.f a0 a1 = some r) :
  Calls Tryz.prog 52 #[.string a0, .string a1] w fun e w' => e = .returned (.int .i64 r) ∧ Below w.heap.size w w' := by
 unfold metrolabref01_Order.f at h
 split at h
 ·rename_i h1
  obtain ⟨k, hk⟩ := (show Runs (fun k => R.metrolabref01_Order.f k a0 a1) _ from by have := ref_order (ival a0) (ival a1) (le90 h1.1) (le90 h1.2); rwa [canI h1.1.1, canI h1.2.1] at this).get
  rw [Option.some.inj h] at hk
  exact R.metrolabref01_Order.calls k a0 a1 r w hk
 ·cases h
def metrolabref01_Shared.f (a0 : ByteArray) (a1 : ByteArray) : Option (ByteArray) := if okI a0 ∧ okI a1 then some (itx (gcdv (ival a0) (ival a1))) else none
theorem metrolabref01_Shared.calls (a0 : ByteArray) (a1 : ByteArray) (r : ByteArray) (w : World) (h : metrolabref01_Shared.f a0 a1 = some r) :
  Calls Tryz.prog 62 #[.string a0, .string a1] w fun e w' => e = .returned (.string r) ∧ Below w.heap.size w w' := by
 unfold metrolabref01_Shared.f at h
 split at h
 ·rename_i h1
  obtain ⟨k, hk⟩ := (show Runs (fun k => R.metrolabref01_Shared.f k a0 a1) _ from by have := ref_shared (ival a0) (ival a1) (le40 h1.1) (le40 h1.2); rwa [canI h1.1.1, canI h1.2.1] at this).get
  rw [Option.some.inj h] at hk
  exact R.metrolabref01_Shared.calls k a0 a1 r w hk
 ·cases h
def metrolabref01_Parted.f (a0 : ByteArray) (a1 : ByteArray) : Option (ByteArray × ByteArray) := if (okI a0 ∧ okI a1) ∧ ival a1 ≠ 0 then some (itx ((ival a0).fdiv (ival a1)), itx ((ival a0).fmod (ival a1))) else none
theorem metrolabref01_Parted.calls (a0 : ByteArray) (a1 : ByteArray) (r1 : ByteArray) (r2 : ByteArray) (w : World) (h : metrolabref01_Parted.f a0 a1 = some (r1, r2)) :
  Calls Tryz.prog 63 #[.string a0, .string a1] w fun e w' => e = .returned (.tuple #[.string r1, .string r2]) ∧ Below w.heap.size w w' := by
 unfold metrolabref01_Parted.f at h
 split at h
 ·rename_i h1
  obtain ⟨k, hk⟩ := (show Runs (fun k => R.metrolabref01_Parted.f k a0 a1) _ from by have := ref_parted (ival a0) (ival a1) h1.2 (le40 h1.1.1) (le40 h1.1.2); rwa [canI h1.1.1.1, canI h1.1.2.1] at this).get
  rw [Option.some.inj h] at hk
  exact R.metrolabref01_Parted.calls k a0 a1 r1 r2 w hk
 ·cases h
theorem below_bytes {a : ByteArray} (h : form a.data.toList = true) : R.metrolabref01_Below.f a = some (decide (ival a < 0)) := by
 have := below_itx (ival a)
 rwa [canI h] at this
def metrolabref01_Below.f (a0 : ByteArray) : Option Bool := if form a0.data.toList = true then some (decide (ival a0 < 0)) else none
theorem metrolabref01_Below.calls (a0 : ByteArray) (r : Bool) (w : World) (h : metrolabref01_Below.f a0 = some r) :
  Calls Tryz.prog 92 #[.string a0] w fun e w' => e = .returned (.bool r) ∧ Below w.heap.size w w' := by
 unfold metrolabref01_Below.f at h
 split at h
 ·rename_i h1
  have hk := below_bytes h1
  rw [Option.some.inj h] at hk
  refine (R.metrolabref01_Below.calls a0 r w hk).mono ?_
  rintro e w' ⟨rfl, n, rfl⟩
  exact ⟨rfl, pw_below_drewN (Below.refl _ _) n⟩
 ·cases h
def whole_Check.f (a0 : ByteArray) : Option Int := L.whole_Check.f a0
theorem whole_Check.calls (a0 : ByteArray) (r : Int) (w : World) (h : whole_Check.f a0 = some r) :
  Calls Tryz.prog 48 #[.string a0] w fun e w' => e = .returned (.int .i64 r) ∧ Below w.heap.size w w' := L.whole_Check.calls a0 r w h
def whole_Sign.f (a0 : ByteArray) : Option (Int × Int) := E.whole_Sign.f a0
theorem whole_Sign.calls (a0 : ByteArray) (r1 r2 : Int) (w : World) (h : whole_Sign.f a0 = some (r1, r2)) :
  Calls Tryz.prog 89 #[.string a0] w fun e w' => e = .returned (.tuple #[.int .i64 r1, .int .i64 r2]) ∧ Below w.heap.size w w' := E.whole_Sign.calls a0 r1 r2 w h
def whole_Mul.f (a0 : ByteArray) (a1 : ByteArray) : Option (ByteArray × Int) := if a0.size ≤ 4611686018427387904 ∧ a1.size ≤ 4611686018427387904 then some (two a0 a1 (kept (ival a0 * ival a1))) else none
theorem whole_Mul.calls (a0 : ByteArray) (a1 : ByteArray) (r1 : ByteArray) (r2 : Int) (w : World) (h : whole_Mul.f a0 a1 = some (r1, r2)) (HT : Aside0 (Tabs w)) :
  Calls Tryz.prog 78 #[.string a0, .string a1] w fun e w' => e = .returned (.tuple #[.string r1, .int .i64 r2]) ∧ Below w.heap.size w w' := by
 unfold whole_Mul.f at h
 split at h
 ·rename_i h1
  have h2 := mul_calls a0 a1 (Nat.le_trans h1.1 (by decide)) (Nat.le_trans h1.2 (by decide)) w HT.out
  unfold TwoPost at h2
  rw [Option.some.inj h] at h2
  exact h2
 ·cases h
def whole_Gcd.f (a0 : ByteArray) (a1 : ByteArray) : Option (ByteArray × Int) := if a0.size ≤ 4611686018427387904 ∧ a1.size ≤ 4611686018427387904 then some (two a0 a1 (itx (gcdv (ival a0) (ival a1)), 0)) else none
theorem whole_Gcd.calls (a0 : ByteArray) (a1 : ByteArray) (r1 : ByteArray) (r2 : Int) (w : World) (h : whole_Gcd.f a0 a1 = some (r1, r2)) (HT : Aside0 (Tabs w)) :
  Calls Tryz.prog 60 #[.string a0, .string a1] w fun e w' => e = .returned (.tuple #[.string r1, .int .i64 r2]) ∧ Below w.heap.size w w' := by
 unfold whole_Gcd.f at h
 split at h
 ·rename_i h1
  have h2 := gcd_calls a0 a1 (Nat.le_trans h1.1 (by decide)) (Nat.le_trans h1.2 (by decide)) w HT.out
  unfold TwoPost at h2
  rw [Option.some.inj h] at h2
  exact h2
 ·cases h
def whole_Add.f (a0 a1 : ByteArray) : Option (ByteArray × Int) := L.whole_Add.f a0 a1
theorem whole_Add.calls (a0 a1 r1 : ByteArray) (r2 : Int) (w : World) (h : whole_Add.f a0 a1 = some (r1, r2)) (HT : Aside0 (Tabs w)) :
  Calls Tryz.prog 75 #[.string a0, .string a1] w fun e w' => e = .returned (.tuple #[.string r1, .int .i64 r2]) ∧ Below w.heap.size w w' := L.whole_Add.calls a0 a1 r1 r2 w h HT
def whole_Quo.f (a0 a1 : ByteArray) : Option (ByteArray × Int) := L.whole_Quo.f a0 a1
theorem whole_Quo.calls (a0 a1 r1 : ByteArray) (r2 : Int) (w : World) (h : whole_Quo.f a0 a1 = some (r1, r2)) (HT : Aside0 (Tabs w)) :
  Calls Tryz.prog 61 #[.string a0, .string a1] w fun e w' => e = .returned (.tuple #[.string r1, .int .i64 r2]) ∧ Below w.heap.size w w' := L.whole_Quo.calls a0 a1 r1 r2 w h HT
def whole_Of.f (a0 : Int) : Option ByteArray := C.whole_Of.f a0
theorem whole_Of.calls (a0 : Int) (r : ByteArray) (w : World) (h : whole_Of.f a0 = some r) (HT : Aside0 (Tabs w)) :
  Calls Tryz.prog 79 #[.int .i64 a0] w fun e w' => e = .returned (.string r) ∧ Below w.heap.size w w' := C.whole_Of.calls a0 r w h HT
def whole_Binomial.f (a0 a1 : Int) : Option (ByteArray × Int) := if 0 ≤ a1 ∧ a1 ≤ a0 ∧ a0 ≤ 30 then some (itx (ch a0.toNat a1.toNat : Nat), 0) else none
theorem whole_Binomial.calls (a0 a1 : Int) (r1 : ByteArray) (r2 : Int) (w : World) (h : whole_Binomial.f a0 a1 = some (r1, r2)) (HT : Aside0 (Tabs w)) :
  Calls Tryz.prog 55 #[.int .i64 a0, .int .i64 a1] w fun e w' => e = .returned (.tuple #[.string r1, .int .i64 r2]) ∧ Below w.heap.size w w' := by
 unfold whole_Binomial.f at h
 split at h
 ·rename_i h1
  obtain ⟨n, rfl⟩ : ∃ n : Nat, a0 = n := ⟨a0.toNat, by omega⟩
  obtain ⟨m, rfl⟩ : ∃ m : Nat, a1 = m := ⟨a1.toNat, by omega⟩
  have h3 := binomial_calls n m (by omega) (by omega) w HT.out
  unfold BinPost at h3
  rw [Int.toNat_natCast, Int.toNat_natCast] at h
  cases h
  exact h3
 ·cases h
def ratio_Check.f (a0 : ByteArray) : Option Int := if a0.size ≤ 4611686018427387904 then some (rchk a0) else none
theorem ratio_Check.calls (a0 : ByteArray) (r : Int) (w : World) (h : ratio_Check.f a0 = some r) (HT : Aside0 (Tabs w)) :
  Calls Tryz.prog 36 #[.string a0] w fun e w' => e = .returned (.int .i64 r) ∧ Below w.heap.size w w' := by
 unfold ratio_Check.f at h
 split at h
 ·rename_i h1; cases h; exact Q.ratio_Check.calls 2 a0 _ w (rcheck_f a0 h1 0) HT
 ·cases h
def ratio_Compare.f (a0 : ByteArray) (a1 : ByteArray) : Option (Int × Int) := if a0.size ≤ 4611686018427387904 ∧ a1.size ≤ 4611686018427387904 then some (cmpR a0 a1) else none
theorem ratio_Compare.calls (a0 : ByteArray) (a1 : ByteArray) (r1 : Int) (r2 : Int) (w : World) (h : ratio_Compare.f a0 a1 = some (r1, r2)) (HT : Aside0 (Tabs w)) :
  Calls Tryz.prog 37 #[.string a0, .string a1] w fun e w' => e = .returned (.tuple #[.int .i64 r1, .int .i64 r2]) ∧ Below w.heap.size w w' := by
 unfold ratio_Compare.f at h
 split at h
 ·rename_i h1
  have h2 := rCompare_calls a0 a1 h1.1 h1.2 w HT.out
  unfold CmpPost at h2
  rw [Option.some.inj h] at h2
  exact h2
 ·cases h
theorem C_map {α β : Type} {d : Kd α} {f : β → α} {w : World} {A : Option Addr} {n : Nat} {xs : List β} (h : Kd.C (Kd.iso d f) w A n xs) : Kd.C d w A n (xs.map f) := by
 refine ⟨by rw [List.length_map]; exact h.1, h.2.1, fun h0 => ?_⟩
 obtain ⟨ad, e, hc⟩ := h.2.2 h0
 refine ⟨ad, e, fun j p hp => ?_⟩
 rw [List.getElem?_map] at hp
 obtain ⟨q, hq, rfl⟩ := Option.map_eq_some_iff.1 hp
 exact hc j q hq
def prs (l : List S60) : List (Int × ByteArray) := l.map fun x => (x.f0, x.f1)
theorem prs_len (l : List S60) : (prs l).length = l.length := List.length_map _
theorem C_prs {w : World} {A : Option Addr} {l : List S60} (h : Kd.C k60 w A l.length l) : Kd.C KP w A (prs l).length (prs l) := by
 rw [prs_len]; exact C_map h
def dist_Check.f (l0 : List S60) : Option Int := if (∀ x ∈ prs l0, x.2.size ≤ 9223372036854775807) then some (dck (prs l0)) else none
theorem dist_Check.calls (A0 : Option Addr) (c0 : Nat) (l0 : List S60) (r : Int) (w : World) (hr0 : Kd.C k60 w A0 l0.length l0) (hc0 : l0.length ≤ c0) (h : dist_Check.f l0 = some r) :
  Calls Tryz.prog 20 #[.slice A0 l0.length c0] w fun e w' => e = .returned (.int .i64 r) ∧ Below w.heap.size w w' := by
 unfold dist_Check.f at h
 split at h
 ·rename_i h1
  cases h
  have := dcheck_calls A0 c0 (prs l0) w (C_prs hr0) (by rw [prs_len]; exact hc0) h1
  rw [prs_len] at this
  exact this
 ·cases h
def dist_Mean.f (l0 : List S60) : Option (ByteArray × Int) := if okD (prs l0) then some (meanR (prs l0)) else none
theorem dist_Mean.calls (A0 : Option Addr) (c0 : Nat) (l0 : List S60) (r1 : ByteArray) (r2 : Int) (w : World) (hr0 : Kd.C k60 w A0 l0.length l0) (hc0 : l0.length ≤ c0) (h : dist_Mean.f l0 = some (r1, r2)) (HT : Aside0 (Tabs w)) :
  Calls Tryz.prog 16 #[.slice A0 l0.length c0] w fun e w' => e = .returned (.tuple #[.string r1, .int .i64 r2]) ∧ Below w.heap.size w w' := by
 unfold dist_Mean.f at h
 split at h
 ·rename_i h1
  have h2 := mean_calls A0 c0 (prs l0) w (C_prs hr0) (by rw [prs_len]; exact hc0) h1 HT.out
  unfold TwoPost at h2
  rw [Option.some.inj h, prs_len] at h2
  exact h2
 ·cases h
def dist_Variance.f (l0 : List S60) : Option (ByteArray × Int) := if okD (prs l0) then some (varR (prs l0)) else none
theorem dist_Variance.calls (A0 : Option Addr) (c0 : Nat) (l0 : List S60) (r1 : ByteArray) (r2 : Int) (w : World) (hr0 : Kd.C k60 w A0 l0.length l0) (hc0 : l0.length ≤ c0) (h : dist_Variance.f l0 = some (r1, r2)) (HT : Aside0 (Tabs w)) :
  Calls Tryz.prog 18 #[.slice A0 l0.length c0] w fun e w' => e = .returned (.tuple #[.string r1, .int .i64 r2]) ∧ Below w.heap.size w w' := by
 unfold dist_Variance.f at h
 split at h
 ·rename_i h1
  have h2 := var_calls A0 c0 (prs l0) w (C_prs hr0) (by rw [prs_len]; exact hc0) h1 HT.out
  unfold TwoPost at h2
  rw [Option.some.inj h, prs_len] at h2
  exact h2
 ·cases h
def dist_Probability.f (l0 : List S60) (a1_0 a1_1 : Int) : Option (ByteArray × Int) := if okD (prs l0) then some (probR (prs l0) a1_0 a1_1) else none
theorem dist_Probability.calls (A0 : Option Addr) (c0 : Nat) (l0 : List S60) (a1_0 a1_1 : Int) (r1 : ByteArray) (r2 : Int) (w : World) (hr0 : Kd.C k60 w A0 l0.length l0) (hc0 : l0.length ≤ c0) (h : dist_Probability.f l0 a1_0 a1_1 = some (r1, r2)) (HT : Aside0 (Tabs w)) :
  Calls Tryz.prog 10 #[.slice A0 l0.length c0, .agg #[.int .i64 a1_0, .int .i64 a1_1]] w fun e w' => e = .returned (.tuple #[.string r1, .int .i64 r2]) ∧ Below w.heap.size w w' := by
 unfold dist_Probability.f at h
 split at h
 ·rename_i h1
  have h2 := prob_calls a1_0 a1_1 A0 c0 (prs l0) w (C_prs hr0) (by rw [prs_len]; exact hc0) h1 HT.out
  unfold TwoPost at h2
  rw [Option.some.inj h, prs_len] at h2
  exact h2
 ·cases h
end Go.Proofs.YtkdpcgmnkifbbaaGreatDoor.D
end
