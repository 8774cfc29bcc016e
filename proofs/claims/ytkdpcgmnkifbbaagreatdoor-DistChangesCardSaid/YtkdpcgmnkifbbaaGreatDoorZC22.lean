/- Joined by a program of this session out of its texts, with only what the last theorem needs: Le EO Ex1 Rs Rm QO. No conditions but those stated. -/
import Derived.Test.YtkdpcgmnkifbbaaGreatDoorZC21
import Derived.Test.YtkdpcgmnkifbbaaGreatDoorZC07
import Derived.Test.YtkdpcgmnkifbbaaGreatDoorZC20
import Derived.Test.YtkdpcgmnkifbbaaGreatDoorZC15
set_option linter.unusedVariables false
set_option linter.unusedSimpArgs false
namespace Go.Proofs.YtkdpcgmnkifbbaaGreatDoorW.PrintLast
end Go.Proofs.YtkdpcgmnkifbbaaGreatDoorW.PrintLast
namespace Go.Proofs.YtkdpcgmnkifbbaaGreatDoorW.PrintMore
end Go.Proofs.YtkdpcgmnkifbbaaGreatDoorW.PrintMore
namespace Go.Proofs.YtkdpcgmnkifbbaaGreatDoorW.PrintWords
end Go.Proofs.YtkdpcgmnkifbbaaGreatDoorW.PrintWords
section
namespace Go.Proofs.YtkdpcgmnkifbbaaGreatDoor
open Go.RowKit Go.Proofs.YtkdpcgmnkifbbaaGreatDoorW.PrintWords Go.Proofs.YtkdpcgmnkifbbaaGreatDoorW.PrintMore
theorem dnat_cons (c : UInt8) (t : List UInt8) : dnat (c :: t) = (c.toNat - 48) * 10 ^ t.length + dnat t := by
 have := dnat_app [c] t
 rw [List.singleton_append] at this
 rw [this]; simp [dnat]
def cmpv (u v : Int) : Int := if u < v then -1 else if u = v then 0 else 1
theorem cmpv_lt {u v : Int} (h : u < v) : cmpv u v = -1 := if_pos h
theorem cmpv_eq {u v : Int} (h : u = v) : cmpv u v = 0 := by unfold cmpv; rw [if_neg (by omega), if_pos h]
theorem cmpv_gt {u v : Int} (h : v < u) : cmpv u v = 1 := by unfold cmpv; rw [if_neg (by omega), if_neg (by omega)]
theorem cmpv_of {u v u' v' : Int} (h1 : u < v ↔ u' < v') (h2 : u = v ↔ u' = v') : cmpv u v = cmpv u' v' := by
 rcases Int.lt_trichotomy u v with h | h | h
 ·rw [cmpv_lt h, cmpv_lt (h1.1 h)]
 ·rw [cmpv_eq h, cmpv_eq (h2.1 h)]
 ·rw [cmpv_gt h, cmpv_gt (by have := mt h1.2 (by omega); have := mt h2.2 (by omega); omega)]
def sgn (u : Int) : Int := if u = 0 then 0 else if 0 < u then 1 else -1
theorem sgn_neg {u : Int} (h : u < 0) : sgn u = -1 := by unfold sgn; rw [if_neg (by omega), if_neg (by omega)]
theorem sgn_zero : sgn 0 = 0 := rfl
theorem sgn_pos {u : Int} (h : 0 < u) : sgn u = 1 := by unfold sgn; rw [if_neg (by omega), if_pos h]
theorem cmp_signs (u v : Int) : (if sgn u < sgn v then some ((-1 : Int), (0 : Int)) else if sgn u > sgn v then some (1, 0) else some (wrap64 (sgn u * cmpv u.natAbs v.natAbs), 0)) = some (cmpv u v, 0) := by
 have w1 : ∀ x y : Int, wrap64 (cmpv x y) = cmpv x y := fun x y => by
  rcases Int.lt_trichotomy x y with h | h | h
  ·rw [cmpv_lt h]; exact IntWalk.wrap64_in _ (by decide)
  ·rw [cmpv_eq h]; exact IntWalk.wrap64_in _ (by decide)
  ·rw [cmpv_gt h]; exact IntWalk.wrap64_in _ (by decide)
 have w2 : ∀ x y : Int, wrap64 (-1 * cmpv x y) = cmpv y x := fun x y => by
  rcases Int.lt_trichotomy x y with h | h | h
  ·rw [cmpv_lt h, cmpv_gt h]; exact IntWalk.wrap64_in _ (by decide)
  ·rw [cmpv_eq h, cmpv_eq h.symm]; exact IntWalk.wrap64_in _ (by decide)
  ·rw [cmpv_gt h, cmpv_lt h]; exact IntWalk.wrap64_in _ (by decide)
 rcases Int.lt_trichotomy u 0 with hu | hu | hu
 ·rw [sgn_neg hu]
  rcases Int.lt_trichotomy v 0 with hv | hv | hv
  ·rw [sgn_neg hv, if_neg (by decide), if_neg (by decide), w2, cmpv_of (u' := u) (v' := v) (by omega) (by omega)]
  ·rw [hv, sgn_zero, if_pos (by decide), cmpv_lt (by omega)]
  ·rw [sgn_pos hv, if_pos (by decide), cmpv_lt (by omega)]
 ·subst hu
  rw [sgn_zero]
  rcases Int.lt_trichotomy v 0 with hv | hv | hv
  ·rw [sgn_neg hv, if_neg (by decide), if_pos (by decide), cmpv_gt (by omega)]
  ·rw [hv, sgn_zero, if_neg (by decide), if_neg (by decide), Int.zero_mul, cmpv_eq rfl, IntWalk.wrap64_in 0 (by decide)]
  ·rw [sgn_pos hv, if_pos (by decide), cmpv_lt (by omega)]
 ·rw [sgn_pos hu]
  rcases Int.lt_trichotomy v 0 with hv | hv | hv
  ·rw [sgn_neg hv, if_neg (by decide), if_pos (by decide), cmpv_gt (by omega)]
  ·rw [hv, sgn_zero, if_neg (by decide), if_pos (by decide), cmpv_gt (by omega)]
  ·rw [sgn_pos hv, if_neg (by decide), if_neg (by decide), Int.one_mul, w1, cmpv_of (u' := u) (v' := v) (by omega) (by omega)]
theorem cmp_digits : ∀ (l m : List UInt8), l.length = m.length → l.all isDig = true → m.all isDig = true → Lib.compareBytes l m = cmpv (dnat l) (dnat m)
 | [], [], _, _, _ => rfl
 | [], _ :: _, h, _, _ => by simp at h
 | _ :: _, [], h, _, _ => by simp at h
 | a :: l, b :: m, h, ha, hb => by
  rw [List.all_cons, Bool.and_eq_true] at ha hb
  have hl : l.length = m.length := by simpa using h
  have ih := cmp_digits l m hl ha.2 hb.2
  have h1 := dnat_lt ha.2
  have h2 := dnat_lt hb.2
  obtain ⟨x, hx, hxa, hx2⟩ := isDig_val ha.1
  obtain ⟨y, hy, hyb, hy2⟩ := isDig_val hb.1
  rw [dnat_cons, dnat_cons, hx2, hy2, ← hl, Lib.compareBytes, ih]
  rw [← hl] at h2
  have e1 : a < b ↔ x < y := by
   rw [hxa, hyb, UInt8.lt_iff_toNat_lt, dig_of x hx, dig_of y hy]; omega
  have e2 : b < a ↔ y < x := by
   rw [hxa, hyb, UInt8.lt_iff_toNat_lt, dig_of x hx, dig_of y hy]; omega
  generalize 10 ^ l.length = p at *
  rcases Nat.lt_trichotomy x y with h3 | h3 | h3
  ·have h4 : (x + 1) * p ≤ y * p := Nat.mul_le_mul_right _ h3
   rw [Nat.add_mul, Nat.one_mul] at h4
   rw [if_pos (e1.2 h3), cmpv_lt (by omega)]
  ·subst h3
   rw [if_neg (fun h => by have := e1.1 h; omega), if_neg (fun h => by have := e2.1 h; omega)]
   exact cmpv_of (by omega) (by omega)
  ·have h4 : (y + 1) * p ≤ x * p := Nat.mul_le_mul_right _ h3
   rw [Nat.add_mul, Nat.one_mul] at h4
   rw [if_neg (fun h => by have := e1.1 h; omega), if_pos (e2.2 h3), cmpv_gt (by omega)]
theorem dd_mono {u v : Nat} (h : (Lib.decDigits u).length < (Lib.decDigits v).length) : u < v := by
 obtain ⟨k, hk⟩ : ∃ k, (Lib.decDigits v).length = k + 1 := ⟨(Lib.decDigits v).length - 1, by omega⟩
 have h0 : 0 < (Lib.decDigits u).length := List.length_pos_iff.2 (dd_ne_nil u)
 obtain ⟨j, rfl⟩ : ∃ j, k = j + 1 := ⟨k - 1, by omega⟩
 have h1 := (dd_le_iff u j).1 (by omega)
 rcases Nat.lt_or_ge v (10 ^ (j + 1)) with h2 | h2
 ·have := (dd_le_iff v j).2 h2; omega
 ·omega
theorem order_f (u v : Nat) : C.whole_order.f ⟨(Lib.decDigits u).toArray⟩ ⟨(Lib.decDigits v).toArray⟩ = some (cmpv u v) := by
 have hs : ∀ l : List UInt8, (⟨l.toArray⟩ : ByteArray).size = l.length := fun l => by rw [Lib.size_eq]
 unfold C.whole_order.f C.strings_Compare.f
 rw [hs, hs]
 by_cases h : (Lib.decDigits u).length = (Lib.decDigits v).length
 ·rw [if_pos (by omega)]
  have := cmp_digits _ _ h (dd_all u) (dd_all v)
  rw [dnat_dd, dnat_dd] at this
  simp only [Option.bind_some]
  rw [this]
 ·rw [if_neg (by omega)]
  by_cases h2 : (Lib.decDigits u).length < (Lib.decDigits v).length
  ·have := dd_mono h2
   rw [if_pos (by omega), cmpv_lt (by omega)]
  ·have := dd_mono (show (Lib.decDigits v).length < (Lib.decDigits u).length by omega)
   rw [if_neg (by omega), cmpv_gt (by omega)]
def twoi (a b : ByteArray) (r : Int) : Int × Int := if chk a ≠ 0 then (0, chk a) else if chk b ≠ 0 then (0, chk b) else (r, 0)
theorem chks_pair (a b : ByteArray) : chks [a, b] = if chk a ≠ 0 then chk a else if chk b ≠ 0 then chk b else 0 := by
 unfold chks chks chks
 by_cases h1 : chk a = 0
 ·by_cases h2 : chk b = 0 <;> simp [h1, h2]
 ·simp [h1]
theorem compare_f (a b : ByteArray) (ha : a.size ≤ 9223372036854775807) (hb : b.size ≤ 9223372036854775807) : C.whole_Compare.f 5 a b = some (twoi a b (cmpv (ival a) (ival b))) := by
 unfold C.whole_Compare.f
 rw [all_two a b ha hb, Option.bind_some]
 by_cases h1 : chk a = 0
 ·by_cases h2 : chk b = 0
  ·have hc : chks [a, b] = 0 := by rw [chks_pair]; simp [h1, h2]
   have ht : ∀ r, twoi a b r = (r, 0) := fun r => by unfold twoi; simp [h1, h2]
   have s1 := L.sign_f h1
   have s2 := L.sign_f h2
   have t1 := trimPrefix_f a
   have t2 := trimPrefix_f b
   have d1 : digs a.data.toList = Lib.decDigits (ival a).natAbs := by
    have := itx_digs (ival a); rwa [← (chk_zero h1).1] at this
   have d2 : digs b.data.toList = Lib.decDigits (ival b).natAbs := by
    have := itx_digs (ival b); rwa [← (chk_zero h2).1] at this
   rw [d1] at t1
   rw [d2] at t2
   rw [if_pos hc, s1, s2, t1, t2]
   simp only [Option.bind_some]
   rw [order_f, ht]
   simp only [Option.bind_some]
   have hk := cmp_signs (ival a) (ival b)
   unfold sgn at hk
   rw [← hk]
  ·rw [if_neg (by rw [chks_pair]; simp [h1, h2]), chks_pair]
   unfold twoi; simp [h1, h2]
 ·rw [if_neg (by rw [chks_pair]; simp [h1]), chks_pair]
  unfold twoi; simp [h1]
theorem sign_calls_f (a : ByteArray) (ha : a.size ≤ 9223372036854775807) : C.whole_Sign.f 2 a = some (if chk a = 0 then (sgn (ival a), 0) else (0, chk a)) := by
 unfold C.whole_Sign.f
 rw [check_f a ha 0, Option.bind_some]
 by_cases h : chk a = 0
 ·rw [if_pos h, if_pos h, L.sign_f h]; rfl
 ·rw [if_neg h, if_neg h]
theorem size_two {a b : ByteArray} (ha : a.size ≤ 9223372036854775807) (hb : b.size ≤ 9223372036854775807) : L.whole_all.f [a, b] = some (chks [a, b]) :=
 if_pos ⟨by intro x hx; simp at hx; rcases hx with rfl | rfl <;> assumption, by simp⟩
theorem add_f (a b : ByteArray) (ha : a.size ≤ 9223372036854775807) (hb : b.size ≤ 9223372036854775807) : L.whole_Add.f a b = some (two a b (kept (ival a + ival b))) := by
 unfold L.whole_Add.f
 rw [size_two ha hb, Option.bind_some]
 by_cases hc : chks [a, b] = 0
 ·obtain ⟨h1, h2⟩ := chks_two hc
  rw [if_pos hc, two_ok hc]
  unfold L.whole_small.f
  rw [if_pos ⟨h1, h2⟩, Option.bind_some]
  unfold smallF
  by_cases h9 : a.size ≤ 9 ∧ b.size ≤ 9
  ·have hm := short_lt h1 h9.1
   have hn := short_lt h2 h9.2
   rw [if_pos h9]
   simp only [if_true]
   rw [IntWalk.wrap64_in _ (by omega)]
   unfold L.whole_result.f
   rw [if_pos (by omega)]
   generalize kept (ival a + ival b) = r
   rfl
  ·rw [if_neg h9]
   simp only [Bool.false_eq_true, if_false]
   unfold L.whole_sum.f
   rw [if_pos ⟨by intro x hx; simp at hx; rcases hx with rfl | rfl <;> assumption, by simp⟩]
   simp only [Option.bind_some]
   have : sumv [a, b] = ival a + ival b := by simp [sumv]
   rw [this]
 ·rw [if_neg hc, two_bad hc]
theorem chk_size {a : ByteArray} (h : chk a = 0) : a.size ≤ 1025 := by
 have h1 : (digs a.data.toList).length ≤ 1024 := by
  have h2 := chk_form h
  unfold chk at h; rw [if_pos h2] at h
  rcases Nat.lt_or_ge 1024 (digs a.data.toList).length with h3 | h3
  ·rw [if_pos h3] at h; cases h
  ·exact h3
 rw [Lib.size_eq]
 unfold digs at h1
 split at h1
 ·rw [List.length_tail] at h1; omega
 ·omega
theorem fits_of_le {u v : Int} (h : u.natAbs ≤ v.natAbs) (hv : fits v) : fits u := by
 unfold fits at *
 generalize 10 ^ lim = p at *
 omega
theorem fits_neg {v : Int} : fits (-v) ↔ fits v := ⟨fun h => fits_of_le (by omega) h, fun h => fits_of_le (by omega) h⟩
theorem chk_opp {a : ByteArray} (h : chk a = 0) : chk (itx (-ival a)) = 0 := by
 rw [chk_itx, if_pos (fits_neg.2 (chk_zero h).2)]
theorem sub_f (a b : ByteArray) (ha : a.size ≤ 9223372036854775807) (hb : b.size ≤ 9223372036854775807) : L.whole_Sub.f a b = some (two a b (kept (ival a - ival b))) := by
 unfold L.whole_Sub.f
 rw [size_two ha hb, Option.bind_some]
 by_cases hc : chks [a, b] = 0
 ·obtain ⟨h1, h2⟩ := chks_two hc
  have h3 := chk_opp h2
  rw [if_pos hc, two_ok hc]
  unfold L.whole_opposite.f
  rw [if_pos ⟨h2, by have := chk_size h2; omega⟩, Option.bind_some, add_f a _ ha (by have := chk_size h3; omega)]
  have : two a (itx (-ival b)) (kept (ival a + ival (itx (-ival b)))) = kept (ival a - ival b) := by
   rw [ival_itx]; unfold two; rw [if_neg (fun h => h h1), if_neg (fun h => h h3)]; rfl
  rw [this]
  generalize kept (ival a - ival b) = r
  rfl
 ·rw [if_neg hc, two_bad hc]
def quoF (a b : ByteArray) : ByteArray × Int := two a b (if ival b = 0 then (⟨#[]⟩, 10) else kept ((ival a).fdiv (ival b)))
theorem quo_le (u v : Int) (hv : v ≠ 0) : (u.fdiv v).natAbs ≤ u.natAbs := by
 have h1 := part_plain' u.natAbs v.natAbs (decide (u < 0)) (decide (v < 0)) (by omega)
 have h2 := part_turn' u.natAbs v.natAbs (decide (u < 0)) (decide (v < 0)) (by omega)
 rw [sg_val, sg_val] at h1 h2
 by_cases h : u.natAbs % v.natAbs = 0 ∨ decide (u < 0) = decide (v < 0)
 ·rw [(h1 h).1, sg_abs]; exact Nat.div_le_self _ _
 ·have h3 := (h2 (by omega) (fun h4 => h (.inr h4))).1
  rw [h3]
  have h5 : 0 < u.natAbs % v.natAbs := by omega
  have h6 : v.natAbs ≠ 1 := by intro h7; rw [h7, Nat.mod_one] at h5; omega
  have h7 : u.natAbs ≠ 0 := by intro h7; rw [h7] at h5; simp at h5
  have h8 := Nat.div_lt_self (show 0 < u.natAbs by omega) (show 1 < v.natAbs by omega)
  generalize u.natAbs / v.natAbs = q at *
  have h4 : sg true q + sg true 1 = -(q : Int) - 1 := by unfold sg; simp; omega
  rw [h4]; omega
theorem quo_f (a b : ByteArray) (ha : a.size ≤ 9223372036854775807) (hb : b.size ≤ 9223372036854775807) : L.whole_Quo.f a b = some (quoF a b) := by
 unfold L.whole_Quo.f L.whole_parted.f quoF
 rw [if_pos ⟨ha, hb⟩, Option.bind_some]
 by_cases hc : chks [a, b] = 0
 ·obtain ⟨h1, h2⟩ := chks_two hc
  rw [two_ok hc]
  by_cases hz : ival b = 0
  ·have hp : partF a b = (⟨#[]⟩, ⟨#[]⟩, 10) := by unfold partF; rw [if_neg (fun h => h hc), if_pos hz]
   rw [hp, if_pos hz]; rfl
  ·have hp : partF a b = (itx ((ival a).fdiv (ival b)), itx ((ival a).fmod (ival b)), 0) := by unfold partF; rw [if_neg (fun h => h hc), if_neg hz]
   rw [hp, if_neg hz]
   have hq : fits ((ival a).fdiv (ival b)) := fits_of_le (quo_le _ _ hz) (chk_zero h1).2
   have hk : chk (itx ((ival a).fdiv (ival b))) = 0 := by rw [chk_itx, if_pos hq]
   simp only [if_true]
   unfold L.whole_Check.f
   rw [if_pos (by have := chk_size hk; omega), hk, kept_fits hq]; rfl
 ·have hp : partF a b = (⟨#[]⟩, ⟨#[]⟩, chks [a, b]) := by unfold partF; rw [if_pos hc]
  rw [hp, two_bad hc]
  simp only [if_neg hc]
end Go.Proofs.YtkdpcgmnkifbbaaGreatDoor
end
section
namespace Go.Proofs.YtkdpcgmnkifbbaaGreatDoor.E
open Go.RowKit Go.Proofs.YtkdpcgmnkifbbaaGreatDoorW.PrintWords Go.Proofs.YtkdpcgmnkifbbaaGreatDoorW.PrintMore
def whole_Check.f (a0 : ByteArray) : Option Int := L.whole_Check.f a0
theorem whole_Check.calls (a0 : ByteArray) (r : Int) (w : World) (h : whole_Check.f a0 = some r) :
  Calls Tryz.prog 48 #[.string a0] w fun e w' => e = .returned (.int .i64 r) ∧ Below w.heap.size w w' := L.whole_Check.calls a0 r w h
def whole_Sign.f (a0 : ByteArray) : Option (Int × Int) := if a0.size ≤ 9223372036854775807 then some (if chk a0 = 0 then (sgn (ival a0), 0) else (0, chk a0)) else none
theorem whole_Sign.calls (a0 : ByteArray) (r1 r2 : Int) (w : World) (h : whole_Sign.f a0 = some (r1, r2)) :
  Calls Tryz.prog 89 #[.string a0] w fun e w' => e = .returned (.tuple #[.int .i64 r1, .int .i64 r2]) ∧ Below w.heap.size w w' := by
 unfold whole_Sign.f at h
 split at h
 ·rename_i h1
  have h2 := sign_calls_f a0 h1
  rw [Option.some.inj h] at h2
  exact C.whole_Sign.calls 2 a0 r1 r2 w h2
 ·cases h
end Go.Proofs.YtkdpcgmnkifbbaaGreatDoor.E
end
section
namespace Go.Proofs.YtkdpcgmnkifbbaaGreatDoor.E
open Go.RowKit Go.Proofs.YtkdpcgmnkifbbaaGreatDoorW.PrintWords Go.Proofs.YtkdpcgmnkifbbaaGreatDoorW.PrintLast Go.Proofs.YtkdpcgmnkifbbaaGreatDoorW.PrintMore
attribute [local go_sem] max2_int min2_int max_two min_two max_three min_three max_four min_four
set_option linter.unusedVariables false
set_option linter.unusedSimpArgs false
def dist_sign.f (a0 : ByteArray) : Option (Int) := (whole_Sign.f a0).bind fun bt101 => (some bt101.1)
set_option maxHeartbeats 8000000 in
set_option maxRecDepth 100000 in
theorem dist_sign.calls (a0 : ByteArray) (r : Int) (w : World) (h : dist_sign.f a0 = some r) :
  Calls Tryz.prog 49 #[.string a0] w fun e w' => e = .returned (.int .i64 r) ∧ Below w.heap.size w w' := by
 have HB := Aside0.mk (Below.refl w.heap.size w)
 have H : ((whole_Sign.f a0).bind fun bt101 => (some bt101.1)) = some r := h
 clear h
 obtain ⟨⟨t101, t102⟩, A2, H⟩ := bindA H
 dsimp only at H
 obtain rfl := Option.some.inj H
 go_enter Tryz.func49, Tryz.ntmps49
 go_wp2_with (first | (refine gy (f := 89) rfl (some 7) rfl Tryz.func89 (whole_Sign.calls a0 t101 t102 _ A2.out) z10_ ?_; clear HB; intro w3 HB))
 go_ret
 exact ⟨z24_, z10_⟩
def dist_within.f (a0 : Int) : Option (Bool) := if a0 ≥ (-1048576) then (some (decide (a0 ≤ 1048576))) else (some false)
set_option maxHeartbeats 8000000 in
set_option maxRecDepth 100000 in
theorem dist_within.calls (a0 : Int) (r : Bool) (w : World) (h : dist_within.f a0 = some r) :
  Calls Tryz.prog 50 #[.int .i64 a0] w fun e w' => e = .returned (.bool r) ∧ Drawn0 w w' := by
 have H : (if a0 ≥ (-1048576) then (some (decide (a0 ≤ 1048576))) else (some false)) = some r := h
 clear h
 by_cases c2 : a0 ≥ (-1048576)
 ·rw [if_pos c2] at H
  have c2b0 : decide ((-1048576) ≤ a0) = true := decide_eq_true c2
  clear c2
  obtain rfl := Option.some.inj H
  go_enter Tryz.func50, Tryz.ntmps50
  go_wp2
  go_ret
  exact ⟨by first | rfl | (simp; done) | (simp [*]; done), by repeat (first | exact Drawn0.refl _ | apply Drawn0.step)⟩
 ·rw [if_neg c2] at H
  have c2b0 : decide ((-1048576) ≤ a0) = false := decide_eq_false c2
  clear c2
  obtain rfl := Option.some.inj H
  go_enter Tryz.func50, Tryz.ntmps50
  go_wp2
  go_ret
  exact ⟨by first | rfl | (simp; done) | (simp [*]; done), by repeat (first | exact Drawn0.refl _ | apply Drawn0.step)⟩
end Go.Proofs.YtkdpcgmnkifbbaaGreatDoor.E
end
section
namespace Go.Proofs.YtkdpcgmnkifbbaaGreatDoor
open Go.RowKit Go.Proofs.YtkdpcgmnkifbbaaGreatDoorW.PrintWords Go.Proofs.YtkdpcgmnkifbbaaGreatDoorW.PrintMore
def Sm (w : World) (s : Nat) (e : Int) : Prop := w.heap[s]? = some (.cells #[.int .i64 e] 100 (0, 0))
theorem Sm.c0 {w : World} {s : Nat} {e : Int} (h : Sm w s e) : w.cell? ⟨s, 0, none⟩ = some (.int .i64 e) := by
 unfold Sm at h; simp [World.cell?, h]
theorem Sm.fz {w : World} {s : Nat} {e : Int} (h : Sm w s e) : w.frozen? ⟨s, 0, none⟩ = false := by
 unfold Sm at h; simp [World.frozen?, h]
theorem Sm.lt {w : World} {s : Nat} {e : Int} (h : Sm w s e) : s < w.heap.size := (Array.getElem?_eq_some_iff.1 h).1
theorem Sm.set {w : World} {s : Nat} {e : Int} (h : Sm w s e) (x : Int) : Sm (w.setCell ⟨s, 0, none⟩ (.int .i64 x)) s x := by
 unfold Sm; rw [heap_setCell_same _ _ _ _ _ _ h]; rfl
theorem Sm.below {w w' : World} {s : Nat} {e : Int} (h : Sm w s e) (hb : Below w.heap.size w w') : Sm w' s e := by
 unfold Sm; rw [hb.block s h.lt]; exact h
theorem Sm.alloc {w : World} {s : Nat} {e : Int} (h : Sm w s e) (o : Obj) : Sm (w.alloc o) s e := h.below ((Below.refl _ _).alloc (Nat.le_refl _) o)
theorem Sm.drewN {w : World} {s : Nat} {e : Int} (h : Sm w s e) (n : Nat) : Sm (w.drewN n) s e := h
theorem Sm.fresh (w : World) : Sm (w.alloc (.cells #[.int .i64 0] 100)) w.heap.size 0 := by
 unfold Sm
 rw [show (w.alloc (.cells #[.int .i64 0] 100)).heap = w.heap.push (.cells #[.int .i64 0] 100) from rfl, Array.getElem?_push_size]
def dos (e : Int) (r : ByteArray × Int) : ByteArray × Int := if e ≠ 0 then (⟨#[48]⟩, e) else if r.2 ≠ 0 then (⟨#[48]⟩, r.2) else (r.1, 0)
def DoPost (w : World) (s : Nat) (r : ByteArray × Int) (e : Ending) (w' : World) : Prop := e = .returned (.string r.1) ∧ Sm w' s r.2 ∧ w.grownBy w' (some s)
theorem dos_err {e : Int} (h : e ≠ 0) (r : ByteArray × Int) : dos e r = (⟨#[48]⟩, e) := if_pos h
theorem dos_zero (r : ByteArray × Int) : dos 0 r = if r.2 ≠ 0 then (⟨#[48]⟩, r.2) else (r.1, 0) := if_neg (fun h => h rfl)
set_option maxRecDepth 100000 in
set_option maxHeartbeats 4000000 in
theorem do_Sub (s : Nat) (a b : ByteArray) (e : Int) (r : ByteArray × Int) (w : World) (hs : Sm w s e)
  (hop : Calls Tryz.prog 120 #[.string a, .string b] w (TwoPost w r)) :
  Calls Tryz.prog 113 #[.pointer (some ⟨s, 0, none⟩), .func (.func 120) #[] #[], .string a, .string b] w (DoPost w s (dos e r)) := by
 have c0 := hs.c0
 have f0 := hs.fz
 have HS := Lib.hid hs; clear hs
 have HOP := Lib.hid hop; clear hop
 by_cases he : e = 0
 ·subst he
  rw [dos_zero]
  obtain ⟨t, x⟩ := r
  by_cases hx : x = 0
  ·have hx2 : (x == 0) = true := beq_iff_eq.2 hx
   rw [if_neg (fun h => h hx), show ((t, x) : ByteArray × Int).1 = t from rfl]
   rw [← hx]
   clear hx
   go_enter Tryz.func113, Tryz.ntmps113
   go_wp2_with fail
   refine HOP.out.mono ?_
   rintro e w1 ⟨rfl, hb1⟩
   have hs1 := HS.out.below hb1
   have c1 := hs1.c0
   have f1 := hs1.fz
   have hs2 := hs1.set x
   have hg2 := gby_set (gby_below (gby_refl w (some s)) hb1) 0 (.int .i64 x)
   have HS2 := Lib.hid hs2; clear hs2 hs1
   have HG2 := Lib.hid hg2; clear hg2 hb1
   clear c0 f0
   go_wp2
   go_ret
   exact ⟨rfl, HS2.out, HG2.out⟩
  ·have hx2 : (x == 0) = false := beq_eq_false_iff_ne.2 hx
   rw [if_pos hx, show ((t, x) : ByteArray × Int).2 = x from rfl]
   clear hx
   go_enter Tryz.func113, Tryz.ntmps113
   go_wp2_with fail
   refine HOP.out.mono ?_
   rintro e w1 ⟨rfl, hb1⟩
   have hs1 := HS.out.below hb1
   have c1 := hs1.c0
   have f1 := hs1.fz
   have hs2 := hs1.set x
   have hg2 := gby_set (gby_below (gby_refl w (some s)) hb1) 0 (.int .i64 x)
   have HS2 := Lib.hid hs2; clear hs2 hs1
   have HG2 := Lib.hid hg2; clear hg2 hb1
   clear c0 f0
   go_wp2
   go_ret
   exact ⟨rfl, HS2.out, HG2.out⟩
 ·rw [dos_err he]
  have he2 : (e == 0) = false := beq_eq_false_iff_ne.2 he
  clear he HOP
  go_enter Tryz.func113, Tryz.ntmps113
  go_wp2
  go_ret
  exact ⟨rfl, HS.out, gby_refl w _⟩
set_option maxRecDepth 100000 in
set_option maxHeartbeats 4000000 in
theorem do_Mul (s : Nat) (a b : ByteArray) (e : Int) (r : ByteArray × Int) (w : World) (hs : Sm w s e)
  (hop : Calls Tryz.prog 78 #[.string a, .string b] w (TwoPost w r)) :
  Calls Tryz.prog 113 #[.pointer (some ⟨s, 0, none⟩), .func (.func 78) #[] #[], .string a, .string b] w (DoPost w s (dos e r)) := by
 have c0 := hs.c0
 have f0 := hs.fz
 have HS := Lib.hid hs; clear hs
 have HOP := Lib.hid hop; clear hop
 by_cases he : e = 0
 ·subst he
  rw [dos_zero]
  obtain ⟨t, x⟩ := r
  by_cases hx : x = 0
  ·have hx2 : (x == 0) = true := beq_iff_eq.2 hx
   rw [if_neg (fun h => h hx), show ((t, x) : ByteArray × Int).1 = t from rfl]
   rw [← hx]
   clear hx
   go_enter Tryz.func113, Tryz.ntmps113
   go_wp2_with fail
   refine HOP.out.mono ?_
   rintro e w1 ⟨rfl, hb1⟩
   have hs1 := HS.out.below hb1
   have c1 := hs1.c0
   have f1 := hs1.fz
   have hs2 := hs1.set x
   have hg2 := gby_set (gby_below (gby_refl w (some s)) hb1) 0 (.int .i64 x)
   have HS2 := Lib.hid hs2; clear hs2 hs1
   have HG2 := Lib.hid hg2; clear hg2 hb1
   clear c0 f0
   go_wp2
   go_ret
   exact ⟨rfl, HS2.out, HG2.out⟩
  ·have hx2 : (x == 0) = false := beq_eq_false_iff_ne.2 hx
   rw [if_pos hx, show ((t, x) : ByteArray × Int).2 = x from rfl]
   clear hx
   go_enter Tryz.func113, Tryz.ntmps113
   go_wp2_with fail
   refine HOP.out.mono ?_
   rintro e w1 ⟨rfl, hb1⟩
   have hs1 := HS.out.below hb1
   have c1 := hs1.c0
   have f1 := hs1.fz
   have hs2 := hs1.set x
   have hg2 := gby_set (gby_below (gby_refl w (some s)) hb1) 0 (.int .i64 x)
   have HS2 := Lib.hid hs2; clear hs2 hs1
   have HG2 := Lib.hid hg2; clear hg2 hb1
   clear c0 f0
   go_wp2
   go_ret
   exact ⟨rfl, HS2.out, HG2.out⟩
 ·rw [dos_err he]
  have he2 : (e == 0) = false := beq_eq_false_iff_ne.2 he
  clear he HOP
  go_enter Tryz.func113, Tryz.ntmps113
  go_wp2
  go_ret
  exact ⟨rfl, HS.out, gby_refl w _⟩
set_option maxRecDepth 100000 in
set_option maxHeartbeats 4000000 in
theorem do_Gcd (s : Nat) (a b : ByteArray) (e : Int) (r : ByteArray × Int) (w : World) (hs : Sm w s e)
  (hop : Calls Tryz.prog 60 #[.string a, .string b] w (TwoPost w r)) :
  Calls Tryz.prog 113 #[.pointer (some ⟨s, 0, none⟩), .func (.func 60) #[] #[], .string a, .string b] w (DoPost w s (dos e r)) := by
 have c0 := hs.c0
 have f0 := hs.fz
 have HS := Lib.hid hs; clear hs
 have HOP := Lib.hid hop; clear hop
 by_cases he : e = 0
 ·subst he
  rw [dos_zero]
  obtain ⟨t, x⟩ := r
  by_cases hx : x = 0
  ·have hx2 : (x == 0) = true := beq_iff_eq.2 hx
   rw [if_neg (fun h => h hx), show ((t, x) : ByteArray × Int).1 = t from rfl]
   rw [← hx]
   clear hx
   go_enter Tryz.func113, Tryz.ntmps113
   go_wp2_with fail
   refine HOP.out.mono ?_
   rintro e w1 ⟨rfl, hb1⟩
   have hs1 := HS.out.below hb1
   have c1 := hs1.c0
   have f1 := hs1.fz
   have hs2 := hs1.set x
   have hg2 := gby_set (gby_below (gby_refl w (some s)) hb1) 0 (.int .i64 x)
   have HS2 := Lib.hid hs2; clear hs2 hs1
   have HG2 := Lib.hid hg2; clear hg2 hb1
   clear c0 f0
   go_wp2
   go_ret
   exact ⟨rfl, HS2.out, HG2.out⟩
  ·have hx2 : (x == 0) = false := beq_eq_false_iff_ne.2 hx
   rw [if_pos hx, show ((t, x) : ByteArray × Int).2 = x from rfl]
   clear hx
   go_enter Tryz.func113, Tryz.ntmps113
   go_wp2_with fail
   refine HOP.out.mono ?_
   rintro e w1 ⟨rfl, hb1⟩
   have hs1 := HS.out.below hb1
   have c1 := hs1.c0
   have f1 := hs1.fz
   have hs2 := hs1.set x
   have hg2 := gby_set (gby_below (gby_refl w (some s)) hb1) 0 (.int .i64 x)
   have HS2 := Lib.hid hs2; clear hs2 hs1
   have HG2 := Lib.hid hg2; clear hg2 hb1
   clear c0 f0
   go_wp2
   go_ret
   exact ⟨rfl, HS2.out, HG2.out⟩
 ·rw [dos_err he]
  have he2 : (e == 0) = false := beq_eq_false_iff_ne.2 he
  clear he HOP
  go_enter Tryz.func113, Tryz.ntmps113
  go_wp2
  go_ret
  exact ⟨rfl, HS.out, gby_refl w _⟩
set_option maxRecDepth 100000 in
set_option maxHeartbeats 4000000 in
theorem do_Quo (s : Nat) (a b : ByteArray) (e : Int) (r : ByteArray × Int) (w : World) (hs : Sm w s e)
  (hop : Calls Tryz.prog 61 #[.string a, .string b] w (TwoPost w r)) :
  Calls Tryz.prog 113 #[.pointer (some ⟨s, 0, none⟩), .func (.func 61) #[] #[], .string a, .string b] w (DoPost w s (dos e r)) := by
 have c0 := hs.c0
 have f0 := hs.fz
 have HS := Lib.hid hs; clear hs
 have HOP := Lib.hid hop; clear hop
 by_cases he : e = 0
 ·subst he
  rw [dos_zero]
  obtain ⟨t, x⟩ := r
  by_cases hx : x = 0
  ·have hx2 : (x == 0) = true := beq_iff_eq.2 hx
   rw [if_neg (fun h => h hx), show ((t, x) : ByteArray × Int).1 = t from rfl]
   rw [← hx]
   clear hx
   go_enter Tryz.func113, Tryz.ntmps113
   go_wp2_with fail
   refine HOP.out.mono ?_
   rintro e w1 ⟨rfl, hb1⟩
   have hs1 := HS.out.below hb1
   have c1 := hs1.c0
   have f1 := hs1.fz
   have hs2 := hs1.set x
   have hg2 := gby_set (gby_below (gby_refl w (some s)) hb1) 0 (.int .i64 x)
   have HS2 := Lib.hid hs2; clear hs2 hs1
   have HG2 := Lib.hid hg2; clear hg2 hb1
   clear c0 f0
   go_wp2
   go_ret
   exact ⟨rfl, HS2.out, HG2.out⟩
  ·have hx2 : (x == 0) = false := beq_eq_false_iff_ne.2 hx
   rw [if_pos hx, show ((t, x) : ByteArray × Int).2 = x from rfl]
   clear hx
   go_enter Tryz.func113, Tryz.ntmps113
   go_wp2_with fail
   refine HOP.out.mono ?_
   rintro e w1 ⟨rfl, hb1⟩
   have hs1 := HS.out.below hb1
   have c1 := hs1.c0
   have f1 := hs1.fz
   have hs2 := hs1.set x
   have hg2 := gby_set (gby_below (gby_refl w (some s)) hb1) 0 (.int .i64 x)
   have HS2 := Lib.hid hs2; clear hs2 hs1
   have HG2 := Lib.hid hg2; clear hg2 hb1
   clear c0 f0
   go_wp2
   go_ret
   exact ⟨rfl, HS2.out, HG2.out⟩
 ·rw [dos_err he]
  have he2 : (e == 0) = false := beq_eq_false_iff_ne.2 he
  clear he HOP
  go_enter Tryz.func113, Tryz.ntmps113
  go_wp2
  go_ret
  exact ⟨rfl, HS.out, gby_refl w _⟩
end Go.Proofs.YtkdpcgmnkifbbaaGreatDoor
end
section
namespace Go.Proofs.YtkdpcgmnkifbbaaGreatDoor
open Go.RowKit Go.Proofs.YtkdpcgmnkifbbaaGreatDoorW.PrintWords Go.Proofs.YtkdpcgmnkifbbaaGreatDoorW.PrintMore
theorem grown_cell {w w' : World} {c s : Nat} (h : w.grownBy w' (some s)) (hne : c ≠ s) (hc : c < w.heap.size) (j : Nat) : w'.cell? ⟨c, j, none⟩ = w.cell? ⟨c, j, none⟩ := by
 have := h.block c hc (by simpa using hne)
 simp [World.cell?, this]
def mulT (t a : ByteArray) : ByteArray × Int := two t a (kept (ival t * ival a))
def mul2 (e : Int) (a b : ByteArray) : ByteArray × Int := dos (dos e (mulT ⟨#[49]⟩ a)).2 (mulT (dos e (mulT ⟨#[49]⟩ a)).1 b)
structure Up (w : World) (s : Nat) (w0 : World) : Prop where
 tabs : Tabs w0
 le : w0.heap.size ≤ s
 below : Below w0.heap.size w0 w
theorem Up.grown {w w' w0 : World} {s : Nat} (h : Up w s w0) (hg : w.grownBy w' (some s)) : Up w' s w0 := ⟨h.tabs, h.le, below_gby h.below h.le h.below.size hg⟩
theorem Up.tab {w w0 : World} {s : Nat} (h : Up w s w0) : Tabs w := h.tabs.below h.below
theorem Up.then {w w' w0 : World} {s : Nat} (h : Up w s w0) (hb : Below w.heap.size w w') : Up w' s w0 := ⟨h.tabs, h.le, below_then h.below h.below.size hb⟩
theorem dos_size {e : Int} {r : ByteArray × Int} (h : r.1.size ≤ 9223372036854775807) : (dos e r).1.size ≤ 9223372036854775807 := by
 unfold dos; split
 ·show (1 : Nat) ≤ _; decide
 ·split
  ·show (1 : Nat) ≤ _; decide
  ·exact h
theorem kept_size (v : Int) : (kept v).1.size ≤ 1025 := by
 unfold kept; split
 ·rename_i h
  exact chk_size (by rw [chk_itx, if_pos h])
 ·show (0 : Nat) ≤ _; decide
theorem two_size {a b : ByteArray} {r : ByteArray × Int} (h : r.1.size ≤ 9223372036854775807) : (two a b r).1.size ≤ 9223372036854775807 := by
 unfold two; split
 ·show (0 : Nat) ≤ _; decide
 ·split
  ·show (0 : Nat) ≤ _; decide
  ·exact h
theorem mulT_size (t a : ByteArray) : (mulT t a).1.size ≤ 9223372036854775807 := two_size (Nat.le_trans (kept_size _) (by decide))
set_option maxRecDepth 100000 in
set_option maxHeartbeats 4000000 in
theorem mul2_calls (s c k : Nat) (a b : ByteArray) (e : Int) (w w0 : World) (hs : Sm w s e) (ca : w.cell? ⟨c, 0, none⟩ = some (.string a)) (cb : w.cell? ⟨c, 1, none⟩ = some (.string b)) (hcs : c ≠ s) (hcl : c < w.heap.size)
  (ha : a.size ≤ 9223372036854775807) (hb : b.size ≤ 9223372036854775807) (hu : Up w s w0) :
  Calls Tryz.prog 71 #[.pointer (some ⟨s, 0, none⟩), .slice (some ⟨c, 0, none⟩) 2 k] w (DoPost w s (mul2 e a b)) := by
 have HS := Lib.hid hs; clear hs
 have HU := Lib.hid hu; clear hu
 have HA := Lib.hid ha; clear ha
 have HBS := Lib.hid hb; clear hb
 have HCA := Lib.hid ca; clear ca
 have HCB := Lib.hid cb; clear cb
 go_enter Tryz.func71, Tryz.ntmps71
 go_wp2
 go_loopg [5, 13] 2 (fun g v5 v13 wr => Hid (w.grownBy wr (some s)) ∧ ((g = 2 ∧ v5 = .string ⟨#[49]⟩ ∧ v13 = .int .i64 0 ∧ Hid (Sm wr s e)) ∨ (g = 1 ∧ v5 = .string (dos e (mulT ⟨#[49]⟩ a)).1 ∧ v13 = .int .i64 1 ∧ Hid (Sm wr s (dos e (mulT ⟨#[49]⟩ a)).2)) ∨ (g = 0 ∧ v5 = .string (mul2 e a b).1 ∧ v13 = .int .i64 2 ∧ Hid (Sm wr s (mul2 e a b).2))))
 case atStart => exact ⟨Lib.hid (gby_refl w _), .inl ⟨rfl, rfl, rfl, HS⟩⟩
 case round =>
  obtain ⟨HG, ⟨rfl, rfl, rfl, HSR⟩ | ⟨rfl, rfl, rfl, HSR⟩ | ⟨rfl, rfl, rfl, HSR⟩⟩ := hrel
  ·have ca := (grown_cell HG.out hcs hcl 0).trans HCA.out
   go_wp2_with fail
   refine (do_Mul s ⟨#[49]⟩ a e (mulT ⟨#[49]⟩ a) wr HSR.out (mul_calls ⟨#[49]⟩ a (by decide) HA.out wr ((HU.out.grown HG.out).tab))).mono ?_
   rintro e w1 ⟨rfl, hs1, hg1⟩
   have HS1 := Lib.hid hs1; clear hs1
   have HG1 := Lib.hid (gby_trans HG.out hg1); clear hg1
   go_wp2
   go_roundg 1
   case measure => decide
   case rel => exact ⟨HG1, .inr (.inl ⟨rfl, rfl, rfl, HS1⟩)⟩
  ·have cb := (grown_cell HG.out hcs hcl 1).trans HCB.out
   have hsz := dos_size (e := e) (mulT_size ⟨#[49]⟩ a)
   have HSZ := Lib.hid hsz; clear hsz
   go_wp2_with fail
   refine (do_Mul s _ b _ (mulT (dos e (mulT ⟨#[49]⟩ a)).1 b) wr HSR.out (mul_calls _ b HSZ.out HBS.out wr ((HU.out.grown HG.out).tab))).mono ?_
   rintro e w1 ⟨rfl, hs1, hg1⟩
   have HS1 := Lib.hid hs1; clear hs1
   have HG1 := Lib.hid (gby_trans HG.out hg1); clear hg1
   go_wp2
   go_roundg 0
   case measure => decide
   case rel => exact ⟨HG1, .inr (.inr ⟨rfl, rfl, rfl, HS1⟩)⟩
  ·go_wp2
   go_ret
   exact ⟨rfl, HSR.out, HG.out⟩
def mres (e v : Int) : ByteArray × Int := if e ≠ 0 then (⟨#[48]⟩, e) else if fits v then (itx v, 0) else (⟨#[48]⟩, 11)
theorem dos_kept (e v : Int) : dos e (kept v) = mres e v := by
 unfold dos mres kept
 by_cases he : e ≠ 0
 ·rw [if_pos he, if_pos he]
 ·rw [if_neg he, if_neg he]
  by_cases hf : fits v
  ·rw [if_pos hf, if_pos hf]; rfl
  ·rw [if_neg hf, if_neg hf]; rfl
theorem one_text : (⟨#[49]⟩ : ByteArray) = itx 1 := by unfold itx Lib.itoa; rw [if_neg (by decide), dd_small (by decide)]; rfl
theorem mul2_eq (e : Int) {a b : ByteArray} (ha : chk a = 0) (hb : chk b = 0) : mul2 e a b = mres e (ival a * ival b) := by
 have h1 : chk (⟨#[49]⟩ : ByteArray) = 0 := by rw [one_text]; exact chk_small (by decide)
 have e1 : mulT ⟨#[49]⟩ a = (a, 0) := by
  unfold mulT two
  rw [if_neg (fun h => h h1), if_neg (fun h => h ha), one_text, ival_itx, Int.one_mul, kept_fits (chk_zero ha).2, ← (chk_zero ha).1]
 unfold mul2
 rw [e1]
 by_cases he : e = 0
 ·subst he
  have e2 : dos 0 (a, 0) = (a, 0) := rfl
  rw [e2]
  have e3 : mulT a b = kept (ival a * ival b) := by
   unfold mulT two
   rw [if_neg (fun h => h ha), if_neg (fun h => h hb)]
  rw [e3, dos_kept]
 ·rw [dos_err he]
  show dos e _ = _
  rw [dos_err he]
  unfold mres; rw [if_pos he]
end Go.Proofs.YtkdpcgmnkifbbaaGreatDoor
end
section
namespace Go.Proofs.YtkdpcgmnkifbbaaGreatDoor.Q
open Go.RowKit Go.Proofs.YtkdpcgmnkifbbaaGreatDoorW.PrintWords Go.Proofs.YtkdpcgmnkifbbaaGreatDoorW.PrintMore
def stringslite_Index.f (a0 a1 : ByteArray) : Option Int := if a1.data.toList = [47] then some (Lib.indexByte a0.data.toList 47) else none
theorem stringslite_Index.calls (a0 a1 : ByteArray) (r : Int) (w : World) (h : stringslite_Index.f a0 a1 = some r) :
  Calls Tryz.prog 159 #[.string a0, .string a1] w fun e w' => e = .returned (.int .i64 r) ∧ Below w.heap.size w w' := by
 unfold stringslite_Index.f at h
 split at h
 ·rename_i h1
  cases h
  have e : a1 = ⟨#[47]⟩ := by rw [← Lib.mk_data a1, h1]
  rw [e]
  refine (Tryz.stringslite_Index_one a0 47 w).mono ?_
  rintro e w' ⟨rfl, rfl⟩
  exact ⟨rfl, Below.refl _ _⟩
 ·cases h
def whole_Check.f (a0 : ByteArray) : Option Int := L.whole_Check.f a0
theorem whole_Check.calls (a0 : ByteArray) (r : Int) (w : World) (h : whole_Check.f a0 = some r) :
  Calls Tryz.prog 48 #[.string a0] w fun e w' => e = .returned (.int .i64 r) ∧ Below w.heap.size w w' := L.whole_Check.calls a0 r w h
def whole_Compare.f (a0 a1 : ByteArray) : Option (Int × Int) := if a0.size ≤ 9223372036854775807 ∧ a1.size ≤ 9223372036854775807 then some (twoi a0 a1 (cmpv (ival a0) (ival a1))) else none
theorem whole_Compare.calls (a0 a1 : ByteArray) (r1 r2 : Int) (w : World) (h : whole_Compare.f a0 a1 = some (r1, r2)) :
  Calls Tryz.prog 69 #[.string a0, .string a1] w fun e w' => e = .returned (.tuple #[.int .i64 r1, .int .i64 r2]) ∧ Below w.heap.size w w' := by
 unfold whole_Compare.f at h
 split at h
 ·rename_i h1
  exact C.whole_Compare.calls 5 a0 a1 r1 r2 w (by rw [compare_f a0 a1 h1.1 h1.2]; exact h)
 ·cases h
def whole_Gcd.f (a0 a1 : ByteArray) : Option (ByteArray × Int) := if a0.size ≤ 9223372036854775807 ∧ a1.size ≤ 9223372036854775807 then some (two a0 a1 (itx (gcdv (ival a0) (ival a1)), 0)) else none
theorem whole_Gcd.calls (a0 a1 : ByteArray) (r1 : ByteArray) (r2 : Int) (w : World) (h : whole_Gcd.f a0 a1 = some (r1, r2)) (HT : Aside0 (Tabs w)) :
  Calls Tryz.prog 60 #[.string a0, .string a1] w fun e w' => e = .returned (.tuple #[.string r1, .int .i64 r2]) ∧ Below w.heap.size w w' := by
 unfold whole_Gcd.f at h
 split at h
 ·rename_i h1
  have h2 := gcd_calls a0 a1 h1.1 h1.2 w HT.out
  unfold TwoPost at h2
  rw [Option.some.inj h] at h2
  exact h2
 ·cases h
end Go.Proofs.YtkdpcgmnkifbbaaGreatDoor.Q
end
