/- Joined by a program of this session out of its texts, with only what the last theorem needs: Bi LO Lx1. No conditions but those stated. -/
import Derived.Test.YtkdpcgmnkifbbaaGreatDoorZC20
import Derived.Test.YtkdpcgmnkifbbaaGreatDoorZC07
set_option linter.unusedVariables false
set_option linter.unusedSimpArgs false
namespace Go.Proofs.YtkdpcgmnkifbbaaGreatDoorW.PrintLast
end Go.Proofs.YtkdpcgmnkifbbaaGreatDoorW.PrintLast
namespace Go.Proofs.YtkdpcgmnkifbbaaGreatDoorW.PrintMore
end Go.Proofs.YtkdpcgmnkifbbaaGreatDoorW.PrintMore
namespace Go.Proofs.YtkdpcgmnkifbbaaGreatDoorW.PrintWords
end Go.Proofs.YtkdpcgmnkifbbaaGreatDoorW.PrintWords
section
namespace Go.Proofs.YtkdpcgmnkifbbaaGreatDoor
open Go.RowKit Go.Proofs.YtkdpcgmnkifbbaaGreatDoorW.PrintWords Go.Proofs.YtkdpcgmnkifbbaaGreatDoorW.PrintMore
def ch : Nat → Nat → Nat
 | _, 0 => 1
 | 0, _ + 1 => 0
 | n + 1, k + 1 => ch n k + ch n (k + 1)
theorem ch_zero (n : Nat) : ch n 0 = 1 := by cases n <;> rfl
theorem ch_lt : ∀ (n k : Nat), n < k → ch n k = 0
 | 0, k + 1, _ => rfl
 | n + 1, k + 1, h => by rw [ch, ch_lt n k (by omega), ch_lt n (k + 1) (by omega)]
theorem ch_self : ∀ n, ch n n = 1
 | 0 => rfl
 | n + 1 => by rw [ch, ch_self n, ch_lt n (n + 1) (by omega)]
theorem ch_mul : ∀ (n k : Nat), (n + 1) * ch n k = ch (n + 1) (k + 1) * (k + 1)
 | 0, 0 => rfl
 | 0, k + 1 => by rw [ch_lt 0 (k + 1) (by omega), ch_lt 1 (k + 2) (by omega)]; simp
 | n + 1, 0 => by
  have := ch_mul n 0
  rw [ch_zero] at this ⊢
  rw [ch, ch_zero]; omega
 | n + 1, k + 1 => by
  have h1 := ch_mul n k
  have h2 := ch_mul n (k + 1)
  rw [show ch (n + 1 + 1) (k + 1 + 1) = ch (n + 1) (k + 1) + ch (n + 1) (k + 1 + 1) from rfl, Nat.add_mul (ch (n + 1) (k + 1)), ← h2]
  rw [show (ch (n + 1) (k + 1)) * (k + 1 + 1) = ch (n + 1) (k + 1) * (k + 1) + ch (n + 1) (k + 1) by rw [Nat.mul_add, Nat.mul_one], ← h1]
  rw [Nat.add_mul (n + 1) 1, Nat.one_mul]
  have e : ch (n + 1) (k + 1) = ch n k + ch n (k + 1) := rfl
  rw [e, Nat.mul_add]; omega
theorem ch_step {n i : Nat} (h : i ≤ n) : ch n i * (n - i) = ch n (i + 1) * (i + 1) := by
 have h1 := ch_mul n i
 rw [show ch (n + 1) (i + 1) = ch n i + ch n (i + 1) from rfl, Nat.add_mul (ch n i), Nat.mul_comm (n + 1)] at h1
 have h2 : ch n i * (n + 1) = ch n i * (n - i) + ch n i * (i + 1) := by rw [← Nat.mul_add]; congr 1; omega
 omega
theorem ch_div {n i : Nat} (h : i ≤ n) : ch n i * (n - i) / (i + 1) = ch n (i + 1) := by
 rw [ch_step h]; exact Nat.mul_div_cancel _ (Nat.succ_pos i)
theorem ch_symm : ∀ (n k : Nat), k ≤ n → ch n (n - k) = ch n k
 | 0, k, h => by have : k = 0 := by omega
                 subst this; rfl
 | n + 1, 0, _ => by rw [Nat.sub_zero, ch_self, ch_zero]
 | n + 1, k + 1, h => by
  rcases Nat.lt_or_ge k n with h1 | h1
  ·have h2 := ch_symm n k (by omega)
   have h3 := ch_symm n (k + 1) (by omega)
   obtain ⟨j, hj⟩ : ∃ j, n - k = j + 1 := ⟨n - k - 1, by omega⟩
   rw [show n + 1 - (k + 1) = j + 1 by omega, ch, ch, ← h2, ← h3, hj, show n - (k + 1) = j by omega]
   omega
  ·obtain rfl : k = n := by omega
   rw [Nat.sub_self, ch_zero, ch_self]
theorem ch_le : ∀ (n k : Nat), ch n k ≤ 2 ^ n
 | n, 0 => by rw [ch_zero]; exact Nat.one_le_two_pow
 | 0, k + 1 => by rw [ch]; exact Nat.zero_le _
 | n + 1, k + 1 => by rw [ch, Nat.pow_succ]; have := ch_le n k; have := ch_le n (k + 1); omega
theorem ch_small {n k : Nat} (h : n ≤ 30) : ch n k ≤ 1073741824 := Nat.le_trans (ch_le n k) (Nat.pow_le_pow_right (by decide) h)
theorem chk_small {v : Int} (h : v.natAbs < 10 ^ 19) : chk (itx v) = 0 := by rw [chk_itx, if_pos (fits_small h)]
theorem nw_two {m : Nat} (h : m < 100000000000) : nw m ≤ 2 := nw_le (lt_BB (L := 11) (by omega) (by decide))
theorem nd_le (i : Nat) (h : i ≤ 30) : nw (i + 1) ≤ 231 := Nat.le_trans (nw_two (m := i + 1) (by omega)) (by decide)
def BinPost (w : World) (v : Int) (e : Ending) (w' : World) : Prop := e = .returned (.tuple #[.string (itx v), .int .i64 0]) ∧ Below w.heap.size w w'
set_option maxRecDepth 100000 in
set_option maxHeartbeats 8000000 in
theorem binomial_calls (n k : Nat) (hk : k ≤ n) (hn : n ≤ 30) (w : World) (ht : Tabs w) :
  Calls Tryz.prog 55 #[.int .i64 n, .int .i64 k] w (BinPost w (ch n k)) := by
 have HT := Lib.hid ht; clear ht
 have p1 : ¬ (n : Int) < 0 := by omega
 have p2 : ¬ (n : Int) > 4096 := by omega
 have p3 : ¬ (k : Int) < 0 := by omega
 have p4 : ¬ (k : Int) > (n : Int) := by omega
 have hone : (⟨#[49]⟩ : ByteArray) = itx 1 := by unfold itx Lib.itoa; rw [if_neg (by decide), dd_small (by decide)]; rfl
 have H1 : Hid (chk (⟨#[49]⟩ : ByteArray) = 0) := Lib.hid (by rw [hone]; exact chk_small (by decide))
 have HV1 : Hid (ival (⟨#[49]⟩ : ByteArray) = 1) := Lib.hid (by rw [hone]; exact ival_itx 1)
 clear hone
 obtain ⟨M, hM⟩ : ∃ M : Nat, M = min k (n - k) := ⟨_, rfl⟩
 have hMi : min (k : Int) ((n : Int) - (k : Int)) = (M : Int) := by omega
 have HS : Hid (ch n M = ch n k) := Lib.hid (by
  rw [hM]
  rcases Nat.le_total k (n - k) with h | h
  ·rw [Nat.min_eq_left h]
  ·rw [Nat.min_eq_right h, ch_symm n k hk])
 have hMn : M ≤ n := by omega
 clear hM
 have hw1 : IntKind.i64.wrap ((n : Int) - (k : Int)) = (n : Int) - (k : Int) := by rw [IntKind.wrap_i64]; omega
 go_enter Tryz.func55, Tryz.ntmps55
 go_wp2_with fail
 refine (read_calls ⟨#[49]⟩ H1.out w).mono ?_
 rintro e w1 ⟨rfl, hm1, hb1⟩
 rw [HV1.out] at hm1
 have HM1 := Lib.hid hm1; clear hm1
 have HB1 := Lib.hid hb1; clear hb1
 have hM1 : Mg w1 w.heap.size false (ch n 0) := by rw [ch_zero]; exact HM1.out
 have HMA := Lib.hid hM1; clear hM1 HM1
 go_wp2
 (try rw [hMi])
 go_loopg [6, 27] M (fun g v6 v27 wr => ∃ (i bo : Nat), v6 = .pointer (some ⟨bo, 0, none⟩) ∧ v27 = .int .i64 (i : Int) ∧ g + i = M ∧ Hid (Mg wr bo false (ch n i)) ∧ Hid (Below w.heap.size w wr))
 case atStart => exact ⟨0, w.heap.size, rfl, rfl, by omega, HMA, HB1⟩
 case round =>
  clear HMA HB1
  obtain ⟨i, bo, rfl, rfl, hgi, HI, HB⟩ := hrel
  rcases Nat.eq_zero_or_pos gk with h0 | h0
  ·obtain rfl : i = M := by omega
   go_wp2_with fail
   refine (limited_calls bo false (ch n i) wr HI.out (HT.out.below HB.out)).mono ?_
   rintro e w7 ⟨rfl, hb7⟩
   have HB7 := Lib.hid (below_then HB.out HB.out.size hb7); clear hb7
   have hkp : kept (sg false (ch n i)) = (itx (ch n k : Int), 0) := by
    rw [HS.out]
    exact kept_fits (fits_small (by have := ch_small (n := n) (k := k) hn; have e1 : sg false (ch n k) = (ch n k : Int) := rfl; rw [e1]; omega))
   have HK := Lib.hid hkp; clear hkp
   go_wp2
   go_ret2
   exact ⟨by rw [HK.out]; rfl, HB7.out⟩
  ·obtain ⟨g, rfl⟩ : ∃ g, gk = g + 1 := ⟨gk - 1, by omega⟩
   have hiM : (i : Int) < (M : Int) := by omega
   have hw2 : IntKind.i64.wrap ((n : Int) - (i : Int)) = (n : Int) - (i : Int) := by rw [IntKind.wrap_i64]; omega
   have hw3 : IntKind.i64.wrap ((i : Int) + 1) = (i : Int) + 1 := by rw [IntKind.wrap_i64]; omega
   have hin : i < n := by omega
   have HO1 := Lib.hid (of_f ((n : Int) - (i : Int)) (by omega) (by omega))
   have HO2 := Lib.hid (of_f ((i : Int) + 1) (by omega) (by omega))
   have HC1 : Hid (chk (itx ((n : Int) - (i : Int))) = 0) := Lib.hid (chk_small (by omega))
   have HC2 : Hid (chk (itx ((i : Int) + 1)) = 0) := Lib.hid (chk_small (by omega))
   have hs1 := ch_small (n := n) (k := i) hn
   have hs2 := ch_small (n := n) (k := i + 1) hn
   have hml : ch n i * (n - i) ≤ 1073741824 * 30 := Nat.mul_le_mul hs1 (by omega)
   have HML := Lib.hid hml; clear hml
   have HS1 := Lib.hid hs1; clear hs1
   have HS2 := Lib.hid hs2; clear hs2
   have hnw := nw_two (m := ch n (i + 1)) (by have := HS2.out; omega)
   go_wp2_with fail
   refine (C.whole_Of.calls ((n : Int) - (i : Int)) _ wr HO1.out (Aside0.mk (HT.out.below HB.out))).mono ?_
   rintro e w3 ⟨rfl, hb3⟩
   have HI3 := Lib.hid (HI.out.below hb3)
   have HB3 := Lib.hid (below_then HB.out HB.out.size hb3); clear hb3
   go_wp2_with fail
   refine (read_calls _ HC1.out w3).mono ?_
   rintro e w4 ⟨rfl, hm4, hb4⟩
   have hm4' : Mg w4 w3.heap.size false (n - i) := by
    rw [ival_itx, decide_eq_false (by omega), show ((n : Int) - (i : Int)).natAbs = n - i by omega] at hm4
    exact hm4
   have HM4 := Lib.hid hm4'; clear hm4 hm4'
   have HI4 := Lib.hid (HI3.out.below hb4)
   have HB4 := Lib.hid (below_then HB3.out HB3.out.size hb4); clear hb4
   go_wp2_with fail
   refine (times_calls bo w3.heap.size false false (ch n i) (n - i) w4 HI4.out HM4.out (lt_BB (L := 11) (by have := HML.out; omega) (by decide)) (by have h1 := nw_two (m := ch n i) (by have := HS1.out; omega); have h2 := nw_two (m := n - i) (by omega); omega)).mono ?_
   rintro e w5 ⟨b5, rfl, hl5, hm5, hb5⟩
   have HM5 := Lib.hid hm5; clear hm5
   have HB5 := Lib.hid (below_then HB4.out HB4.out.size hb5); clear hb5 HI HI3 HI4
   go_wp2_with fail
   refine (C.whole_Of.calls ((i : Int) + 1) _ w5 HO2.out (Aside0.mk (HT.out.below HB5.out))).mono ?_
   rintro e w6 ⟨rfl, hb6⟩
   have HM6 := Lib.hid (HM5.out.below hb6)
   have HB6 := Lib.hid (below_then HB5.out HB5.out.size hb6); clear hb6
   go_wp2_with fail
   refine (read_calls _ HC2.out w6).mono ?_
   rintro e w7 ⟨rfl, hm7, hb7⟩
   have hm7' : Mg w7 w6.heap.size false (i + 1) := by
    rw [ival_itx, decide_eq_false (by omega), show ((i : Int) + 1).natAbs = i + 1 by omega] at hm7
    exact hm7
   have HD7 := Lib.hid hm7'; clear hm7 hm7'
   have HM7 := Lib.hid (HM6.out.below hb7)
   have HB7 := Lib.hid (below_then HB6.out HB6.out.size hb7); clear hb7 HM6 HM5
   go_wp2_with fail
   have hnd := nd_le i (by omega)
   refine (divided_calls b5 w6.heap.size _ false (ch n i * (n - i)) (i + 1) w7 HM7.out HD7.out (Nat.succ_pos i) hnd).mono ?_
   clear hnd
   rintro e w8 ⟨q, r, rfl, hq, hr, hqr, hmq, hmr, hb8⟩
   rw [ch_div (Nat.le_of_lt hin)] at hmq
   have cq := hmq.c1
   have HMQ := Lib.hid hmq; clear hmq hmr
   have HB8 := Lib.hid (below_then HB7.out HB7.out.size hb8); clear hb8
   obtain ⟨z, hz⟩ : ∃ z : Int, z = ((nw (ch n (i + 1)) : Nat) : Int) := ⟨_, rfl⟩
   rw [← hz] at cq
   have hz2 : 0 ≤ z ∧ z ≤ 2 := by omega
   have hz3 : (1033 < z * 9) = False := by rw [eq_iff_iff]; exact ⟨fun h => by omega, False.elim⟩
   clear hz hnw
   obtain ⟨hz4, hz5⟩ := hz2
   have hi30 : (i : Int) ≤ 30 := by omega
   have hi00 : (0 : Int) ≤ (i : Int) := by omega
   have HGI := Lib.hid hgi; have HIN := Lib.hid hin
   clear hw1 hw2 hw3 hMi hin p1 p2 p3 p4 hk hn hgi hMn hqr hq hr hl5
   go_wp2
   go_roundg g
   case measure => omega
   case rel => have hgi := HGI.out; exact ⟨i + 1, q, rfl, by go_num, by omega, HMQ, HB8⟩
end Go.Proofs.YtkdpcgmnkifbbaaGreatDoor
end
section
namespace Go.Proofs.YtkdpcgmnkifbbaaGreatDoor.L
open Go.RowKit Go.Proofs.YtkdpcgmnkifbbaaGreatDoorW.PrintWords Go.Proofs.YtkdpcgmnkifbbaaGreatDoorW.PrintMore
def whole_Check.f (a0 : ByteArray) : Option Int := if a0.size ≤ 9223372036854775807 then some (chk a0) else none
theorem whole_Check.calls (a0 : ByteArray) (r : Int) (w : World) (h : whole_Check.f a0 = some r) :
  Calls Tryz.prog 48 #[.string a0] w fun e w' => e = .returned (.int .i64 r) ∧ Below w.heap.size w w' := by
 unfold whole_Check.f at h
 split at h
 ·rename_i h1; cases h; exact check_calls a0 h1 w
 ·cases h
def whole_all.f (l0 : List ByteArray) : Option Int := if (∀ a ∈ l0, a.size ≤ 9223372036854775807) ∧ l0.length ≤ 4611686018427387904 then some (chks l0) else none
theorem whole_all.calls (A0 : Option Addr) (c0 : Nat) (l0 : List ByteArray) (r : Int) (w : World) (hr0 : Kd.C Kd.string w A0 l0.length l0) (hc0 : l0.length ≤ c0) (h : whole_all.f l0 = some r) :
  Calls Tryz.prog 101 #[.slice A0 l0.length c0] w fun e w' => e = .returned (.int .i64 r) ∧ Below w.heap.size w w' := by
 unfold whole_all.f at h
 split at h
 ·rename_i h1; cases h; exact C.whole_all.calls _ A0 c0 l0 _ w hr0 hc0 (all_f l0 h1.1 h1.2 (l0.length + 3) (Nat.le_refl _))
 ·cases h
def whole_small.f (a0 a1 : ByteArray) : Option (Int × Int × Bool) := if chk a0 = 0 ∧ chk a1 = 0 then some (smallF a0 a1) else none
theorem whole_small.calls (a0 a1 : ByteArray) (r1 r2 : Int) (r3 : Bool) (w : World) (h : whole_small.f a0 a1 = some (r1, r2, r3)) :
  Calls Tryz.prog 114 #[.string a0, .string a1] w fun e w' => e = .returned (.tuple #[.int .i64 r1, .int .i64 r2, .bool r3]) ∧ Below w.heap.size w w' := by
 unfold whole_small.f at h
 split at h
 ·rename_i h1
  have h2 := small_calls a0 a1 w h1.1 h1.2
  unfold SmallPost at h2
  rw [Option.some.inj h] at h2
  exact h2
 ·cases h
def whole_result.f (v : Int) : Option (ByteArray × Int) := if -9223372036854775808 ≤ v ∧ v ≤ 9223372036854775807 then some (kept v) else none
theorem whole_result.calls (a0 : Int) (r1 : ByteArray) (r2 : Int) (w : World) (h : whole_result.f a0 = some (r1, r2)) (HT : Aside0 (Tabs w)) :
  Calls Tryz.prog 115 #[.int .i64 a0] w fun e w' => e = .returned (.tuple #[.string r1, .int .i64 r2]) ∧ Below w.heap.size w w' := by
 unfold whole_result.f at h
 split at h
 ·rename_i h1
  have h2 := C.whole_result.calls a0 _ _ w (result_f a0 h1.1 h1.2) HT
  rw [Option.some.inj h] at h2
  exact h2
 ·cases h
def whole_sum.f (l0 : List ByteArray) : Option (ByteArray × Int) := if (∀ a ∈ l0, chk a = 0) ∧ l0.length ≤ 4096 then some (kept (sumv l0)) else none
theorem whole_sum.calls (A0 : Option Addr) (c0 : Nat) (l0 : List ByteArray) (r1 : ByteArray) (r2 : Int) (w : World) (hr0 : Kd.C Kd.string w A0 l0.length l0) (hc0 : l0.length ≤ c0) (h : whole_sum.f l0 = some (r1, r2)) (HT : Aside0 (Tabs w)) :
  Calls Tryz.prog 116 #[.slice A0 l0.length c0] w fun e w' => e = .returned (.tuple #[.string r1, .int .i64 r2]) ∧ Below w.heap.size w w' := by
 unfold whole_sum.f at h
 split at h
 ·rename_i h1
  have h2 := sum_calls A0 c0 l0 w hr0 hc0 h1.1 h1.2 HT.out
  unfold KeptPost at h2
  rw [Option.some.inj h] at h2
  exact h2
 ·cases h
theorem neg_text (v : Int) : (if v = 0 then itx v else if 0 < v then (⟨#[45]⟩ : ByteArray) ++ itx v else (itx v).extract 1 (itx v).size) = itx (-v) := by
 rcases Int.lt_trichotomy v 0 with h | h | h
 ·rw [if_neg (by omega), if_neg (by omega), Lib.extract_eq, itx_list]
  unfold itx Lib.itoa
  rw [if_pos h, if_neg (by omega), List.drop_one, List.tail_cons, List.take_of_length_le (by rw [Lib.size_eq]; simp)]
  have : v.natAbs = (-v).toNat := by omega
  rw [this]
 ·subst h; rfl
 ·rw [if_neg (by omega), if_pos h]
  unfold itx Lib.itoa
  rw [if_neg (by omega), if_pos (by omega)]
  have : v.toNat = (-v).natAbs := by omega
  rw [this]
  rfl
theorem sign_f {a : ByteArray} (h : chk a = 0) : C.whole_sign.f a = some (if ival a = 0 then 0 else if 0 < ival a then 1 else -1) := by
 unfold C.whole_sign.f
 have h1 := zero_text h
 by_cases h0 : ival a = 0
 ·rw [decide_eq_true h0, beq_iff_eq] at h1
  rw [if_pos h1, if_pos h0]
 ·rw [decide_eq_false h0, beq_eq_false_iff_ne] at h1
  rw [if_neg h1, if_neg h0]
  have hp : 0 < a.size := by
   rw [Lib.size_eq]
   exact Nat.lt_of_lt_of_le (List.length_pos_iff.2 (form_all (chk_form h)).2) (digs_len _)
  rw [if_pos (by omega)]
  have hb : bt a 0 = 45 ↔ ival a < 0 := (bt_head a hp 45).trans (form_head a (chk_form h))
  by_cases hn : 0 < ival a
  ·rw [if_pos hn, if_neg (fun h2 => by have := hb.1 h2; omega)]
  ·rw [if_neg hn, if_pos (hb.2 (by omega))]
def whole_opposite.f (a0 : ByteArray) : Option ByteArray := if chk a0 = 0 ∧ a0.size ≤ 4611686018427387904 then some (itx (-ival a0)) else none
theorem opp_f {a : ByteArray} (h : chk a = 0) (hs : a.size ≤ 4611686018427387904) : C.whole_opposite.f a = some (itx (-ival a)) := by
 unfold C.whole_opposite.f
 rw [sign_f h, Option.bind_some]
 have h1 := (chk_zero h).1
 have h2 := neg_text (ival a)
 rw [← h1] at h2
 have hp : 0 < a.size := by
  rw [Lib.size_eq]
  exact Nat.lt_of_lt_of_le (List.length_pos_iff.2 (form_all (chk_form h)).2) (digs_len _)
 by_cases h0 : ival a = 0
 ·rw [if_pos h0] at h2
  rw [if_pos h0, if_pos rfl]
  exact congrArg some h2
 ·rw [if_neg h0] at h2
  rw [if_neg h0]
  by_cases hn : 0 < ival a
  ·rw [if_pos hn] at h2
   rw [if_pos hn, if_neg (by decide), if_pos rfl, if_pos (by omega), h2]
  ·rw [if_neg hn] at h2
   rw [if_neg hn, if_neg (by decide), if_neg (by decide), if_pos (by omega), h2]
theorem whole_opposite.calls (a0 r : ByteArray) (w : World) (h : whole_opposite.f a0 = some r) :
  Calls Tryz.prog 149 #[.string a0] w fun e w' => e = .returned (.string r) ∧ Below w.heap.size w w' := by
 unfold whole_opposite.f at h
 split at h
 ·rename_i h1
  cases h
  refine (C.whole_opposite.calls a0 _ w (opp_f h1.1 h1.2)).mono ?_
  rintro e w' ⟨rfl, n, rfl⟩
  exact ⟨rfl, pw_below_drewN (Below.refl _ _) n⟩
 ·cases h
def whole_parted.f (a0 a1 : ByteArray) : Option (ByteArray × ByteArray × Int) := if a0.size ≤ 9223372036854775807 ∧ a1.size ≤ 9223372036854775807 then some (partF a0 a1) else none
theorem whole_parted.calls (a0 a1 r1 r2 : ByteArray) (r3 : Int) (w : World) (h : whole_parted.f a0 a1 = some (r1, r2, r3)) (HT : Aside0 (Tabs w)) :
  Calls Tryz.prog 103 #[.string a0, .string a1] w fun e w' => e = .returned (.tuple #[.string r1, .string r2, .int .i64 r3]) ∧ Below w.heap.size w w' := by
 unfold whole_parted.f at h
 split at h
 ·rename_i h1
  have h2 := parted_calls a0 a1 h1.1 h1.2 w HT.out
  unfold PartPost at h2
  rw [Option.some.inj h] at h2
  exact h2
 ·cases h
end Go.Proofs.YtkdpcgmnkifbbaaGreatDoor.L
end
section
namespace Go.Proofs.YtkdpcgmnkifbbaaGreatDoor.L
open Go.RowKit Go.Proofs.YtkdpcgmnkifbbaaGreatDoorW.PrintWords Go.Proofs.YtkdpcgmnkifbbaaGreatDoorW.PrintLast Go.Proofs.YtkdpcgmnkifbbaaGreatDoorW.PrintMore
attribute [local go_sem] max2_int min2_int max_two min_two max_three min_three max_four min_four
set_option linter.unusedVariables false
set_option linter.unusedSimpArgs false
def whole_Add.f (a0 : ByteArray) (a1 : ByteArray) : Option (ByteArray × Int) := (whole_all.f (([a0, a1] : List ByteArray))).bind fun t104 => (if t104 = 0 then ((whole_small.f a0 a1).bind fun bt105 => (if bt105.2.2 = true then ((whole_result.f (wrap64 (bt105.1 + bt105.2.1))).bind fun bt108 => (some (bt108.1, bt108.2))) else ((whole_sum.f (([a0, a1] : List ByteArray))).bind fun bt113 => (some (bt113.1, bt113.2))))) else (some ((⟨#[]⟩ : ByteArray), t104)))
set_option maxHeartbeats 8000000 in
set_option maxRecDepth 100000 in
theorem whole_Add.calls (a0 : ByteArray) (a1 : ByteArray) (r1 : ByteArray) (r2 : Int) (w : World) (h : whole_Add.f a0 a1 = some (r1, r2)) (HT : Aside0 (Tabs w)) :
  Calls Tryz.prog 75 #[.string a0, .string a1] w fun e w' => e = .returned (.tuple #[.string r1, .int .i64 r2]) ∧ Below w.heap.size w w' := by
 have HB := Aside0.mk (Below.refl w.heap.size w)
 have H : ((whole_all.f (([a0, a1] : List ByteArray))).bind fun t104 => (if t104 = 0 then ((whole_small.f a0 a1).bind fun bt105 => (if bt105.2.2 = true then ((whole_result.f (wrap64 (bt105.1 + bt105.2.1))).bind fun bt108 => (some (bt108.1, bt108.2))) else ((whole_sum.f (([a0, a1] : List ByteArray))).bind fun bt113 => (some (bt113.1, bt113.2))))) else (some ((⟨#[]⟩ : ByteArray), t104)))) = some (r1, r2) := h
 clear h
 obtain ⟨y101, hy101⟩ : ∃ y_ : List ByteArray, y_ = (([a0, a1] : List ByteArray)) := ⟨_, rfl⟩
 replace H : ((whole_all.f y101).bind fun t104 => (if t104 = 0 then ((whole_small.f a0 a1).bind fun bt105 => (if bt105.2.2 = true then ((whole_result.f (wrap64 (bt105.1 + bt105.2.1))).bind fun bt108 => (some (bt108.1, bt108.2))) else ((whole_sum.f (([a0, a1] : List ByteArray))).bind fun bt113 => (some (bt113.1, bt113.2))))) else (some ((⟨#[]⟩ : ByteArray), t104)))) = some (r1, r2) := by first | (rw [hy101]; with_reducible exact H) | (have H2_ := (Option.bind_some _ _).symm.trans H; rw [hy101]; with_reducible exact H2_) | (have H2_ := (Option.bind_some _ _).symm.trans H; with_reducible exact H2_) | with_reducible exact H | (rw [hy101]; exact H) | exact H
 have Ny101 := Aside0.mk hy101
 clear hy101
 obtain ⟨t104, A3, H⟩ := bindA H
 by_cases c4 : t104 = 0
 ·rw [if_pos c4] at H
  have c4b0 := beq_iff_eq.mpr c4
  have c4b1 := bne_eq_false_iff_eq.mpr c4
  clear c4
  obtain ⟨⟨t105, t106, t107⟩, A5, H⟩ := bindA H
  dsimp only at H
  by_cases c6 : t107 = true
  ·subst c6
   rw [if_pos rfl] at H
   obtain ⟨⟨t108, t109⟩, A7, H⟩ := bindA H
   dsimp only at H
   simp only [Option.some.injEq, Prod.mk.injEq] at H
   obtain ⟨rfl, rfl⟩ := H
   go_enter Tryz.func75, Tryz.ntmps75
   go_wp2_with (first | ((with_reducible refine gate_dst (N := 12) rfl ?_); refine Kd.R_lit Kd.string _ 39 ?hg (N := 12) ?hd (xs := ([a0, a1] : List ByteArray)) (inner := [.string a0, .string a1]) (ok := fun _ => True) (okp := fun _ => True) ?hr ?hp (fun _ hk => hk) trivial (Below.refl _ _) (Nat.le_refl _) (by simp) ?_; (case hd => rfl); (case hg => rfl); (case hr => first | (go_simp; done) | (go_simp; rfl)); (case hp => exact (Reps.one (show Kd.M Kd.string _ _ _ a0 [.string a0] from rfl) (Reps.one (show Kd.M Kd.string _ _ _ a1 [.string a1] from rfl) (Reps.none _ _)))); intro v102 w8 ho9 hb hg_ hnew_; clear hg_ hnew_; (first | rw [← Ny101.out] at ho9 | (simp only [Int.reduceToNat] at ho9; rw [← Ny101.out] at ho9)); have n0_ := Aside0.mk (Kd.R_lower ho9 (below_size z10_)); have n1_ := Aside0.mk (below_step z10_ hb); clear HB; have HO103 := n0_; have HB := n1_; clear n0_ n1_; clear hb ho9; obtain ⟨Ao10, co10, eo10⟩ := Kd.R_slice HO103.out; subst eo10) | ((with_reducible refine gate_callee (f := 101) rfl ?_); refine goesL_ (some 13) rfl rfl Tryz.func101 (by kernel_rfl) rfl #[.slice Ao10 y101.length co10] rfl z9_ ?_; (with_reducible refine (whole_all.calls _ _ y101 t104 _ ?side1 ?side2 A3.out).mono ?_); (case side1 => repeat (first | exact (Kd.R_reads' HO103.out).2.2 | (with_reducible refine Kd.C_alloc ?_ _) | (with_reducible refine Kd.C_drewN ?_ _) | (with_reducible refine Kd.C_drew ?_))); (case side2 => exact (Kd.R_reads' HO103.out).2.1); rintro e w11 ⟨rfl, hb⟩; refine ⟨_, rfl, ?_⟩; have n0_ := Aside0.mk (Kd.R_below z13_ hb); have n1_ := Aside0.mk (below_step z10_ hb); clear HO103; clear HB; have HO103 := n0_; have HB := n1_; clear n0_ n1_; (try clear hb); (try clear hb2); (try clear hk); (try clear hi)) | (refine gz (f := 114) rfl (some 20) rfl Tryz.func114 (whole_small.calls a0 a1 t105 t106 true _ A5.out) ?_; rintro w12 hb; have n0_ := Aside0.mk (Kd.R_below z13_ hb); have n1_ := Aside0.mk (below_step z10_ hb); clear HO103; clear HB; have HO103 := n0_; have HB := n1_; clear n0_ n1_; (try clear hb); (try clear hb2); (try clear hk); (try clear hi)) | (refine gz (f := 115) rfl (some 28) rfl Tryz.func115 (whole_result.calls (wrap64 (t105 + t106)) t108 t109 _ A7.out (Aside0.mk (Tabs.below HT.out z4_))) ?_; rintro w13 hb; have n0_ := Aside0.mk (Kd.R_below z13_ hb); have n1_ := Aside0.mk (below_step z10_ hb); clear HO103; clear HB; have HO103 := n0_; have HB := n1_; clear n0_ n1_; (try clear hb); (try clear hb2); (try clear hk); (try clear hi)))
   go_ret2
   exact ⟨z24_, z10_⟩
  ·replace c6 := Bool.eq_false_iff.mpr c6
   subst c6
   rw [if_neg (show ¬ (false = true) by decide)] at H
   obtain ⟨y110, hy110⟩ : ∃ y_ : List ByteArray, y_ = (([a0, a1] : List ByteArray)) := ⟨_, rfl⟩
   replace H : ((whole_sum.f y110).bind fun bt113 => (some (bt113.1, bt113.2))) = some (r1, r2) := by first | (rw [hy110]; with_reducible exact H) | (have H2_ := (Option.bind_some _ _).symm.trans H; rw [hy110]; with_reducible exact H2_) | (have H2_ := (Option.bind_some _ _).symm.trans H; with_reducible exact H2_) | with_reducible exact H | (rw [hy110]; exact H) | exact H
   have Ny110 := Aside0.mk hy110
   clear hy110
   obtain ⟨⟨t113, t114⟩, A14, H⟩ := bindA H
   dsimp only at H
   simp only [Option.some.injEq, Prod.mk.injEq] at H
   obtain ⟨rfl, rfl⟩ := H
   go_enter Tryz.func75, Tryz.ntmps75
   go_wp2_with (first | ((with_reducible refine gate_dst (N := 12) rfl ?_); refine Kd.R_lit Kd.string _ 39 ?hg (N := 12) ?hd (xs := ([a0, a1] : List ByteArray)) (inner := [.string a0, .string a1]) (ok := fun _ => True) (okp := fun _ => True) ?hr ?hp (fun _ hk => hk) trivial (Below.refl _ _) (Nat.le_refl _) (by simp) ?_; (case hd => rfl); (case hg => rfl); (case hr => first | (go_simp; done) | (go_simp; rfl)); (case hp => exact (Reps.one (show Kd.M Kd.string _ _ _ a0 [.string a0] from rfl) (Reps.one (show Kd.M Kd.string _ _ _ a1 [.string a1] from rfl) (Reps.none _ _)))); intro v102 w15 ho16 hb hg_ hnew_; clear hg_ hnew_; (first | rw [← Ny101.out] at ho16 | (simp only [Int.reduceToNat] at ho16; rw [← Ny101.out] at ho16)); have n0_ := Aside0.mk (Kd.R_lower ho16 (below_size z10_)); have n1_ := Aside0.mk (below_step z10_ hb); clear HB; have HO103 := n0_; have HB := n1_; clear n0_ n1_; clear hb ho16; obtain ⟨Ao17, co17, eo17⟩ := Kd.R_slice HO103.out; subst eo17) | ((with_reducible refine gate_callee (f := 101) rfl ?_); refine goesL_ (some 13) rfl rfl Tryz.func101 (by kernel_rfl) rfl #[.slice Ao17 y101.length co17] rfl z9_ ?_; (with_reducible refine (whole_all.calls _ _ y101 t104 _ ?side1 ?side2 A3.out).mono ?_); (case side1 => repeat (first | exact (Kd.R_reads' HO103.out).2.2 | (with_reducible refine Kd.C_alloc ?_ _) | (with_reducible refine Kd.C_drewN ?_ _) | (with_reducible refine Kd.C_drew ?_))); (case side2 => exact (Kd.R_reads' HO103.out).2.1); rintro e w18 ⟨rfl, hb⟩; refine ⟨_, rfl, ?_⟩; have n0_ := Aside0.mk (Kd.R_below z13_ hb); have n1_ := Aside0.mk (below_step z10_ hb); clear HO103; clear HB; have HO103 := n0_; have HB := n1_; clear n0_ n1_; (try clear hb); (try clear hb2); (try clear hk); (try clear hi)) | (refine gz (f := 114) rfl (some 20) rfl Tryz.func114 (whole_small.calls a0 a1 t105 t106 false _ A5.out) ?_; rintro w19 hb; have n0_ := Aside0.mk (Kd.R_below z13_ hb); have n1_ := Aside0.mk (below_step z10_ hb); clear HO103; clear HB; have HO103 := n0_; have HB := n1_; clear n0_ n1_; (try clear hb); (try clear hb2); (try clear hk); (try clear hi)) | ((with_reducible refine gate_dst (N := 33) rfl ?_); refine Kd.R_lit Kd.string _ 39 ?hg (N := 33) ?hd (xs := ([a0, a1] : List ByteArray)) (inner := [.string a0, .string a1]) (ok := fun _ => True) (okp := fun _ => True) ?hr ?hp (fun _ hk => hk) trivial (Below.refl _ _) (Nat.le_refl _) (by simp) ?_; (case hd => rfl); (case hg => rfl); (case hr => first | (go_simp; done) | (go_simp; rfl)); (case hp => exact (Reps.one (show Kd.M Kd.string _ _ _ a0 [.string a0] from rfl) (Reps.one (show Kd.M Kd.string _ _ _ a1 [.string a1] from rfl) (Reps.none _ _)))); intro v111 w20 ho21 hb hg_ hnew_; clear hg_ hnew_; (first | rw [← Ny110.out] at ho21 | (simp only [Int.reduceToNat] at ho21; rw [← Ny110.out] at ho21)); have n0_ := Aside0.mk (Kd.R_elder' z13_ (Kd.R_base ho21) hb); have n1_ := Aside0.mk (Kd.R_lower (Kd.R_new' ho21 (Kd.R_lt z13_)) (below_size z10_)); have n2_ := Aside0.mk (below_step z10_ hb); clear HO103; clear HB; have HO103 := n0_; have HO112 := n1_; have HB := n2_; clear n0_ n1_ n2_; clear hb ho21; obtain ⟨Ao22, co22, eo22⟩ := Kd.R_slice HO112.out; subst eo22) | ((with_reducible refine gate_callee (f := 116) rfl ?_); refine goesL_ (some 34) rfl rfl Tryz.func116 (by kernel_rfl) rfl #[.slice Ao22 y110.length co22] rfl z9_ ?_; (with_reducible refine (whole_sum.calls _ _ y110 t113 t114 _ ?side1 ?side2 A14.out (Aside0.mk (Tabs.below HT.out z4_))).mono ?_); (case side1 => repeat (first | exact (Kd.R_reads' HO112.out).2.2 | (with_reducible refine Kd.C_alloc ?_ _) | (with_reducible refine Kd.C_drewN ?_ _) | (with_reducible refine Kd.C_drew ?_))); (case side2 => exact (Kd.R_reads' HO112.out).2.1); rintro e w23 ⟨rfl, hb⟩; refine ⟨_, rfl, ?_⟩; have n0_ := Aside0.mk (Kd.R_below z13_ hb); have n1_ := Aside0.mk (Kd.R_below (by (with_reducible repeat (first | apply Kd.R_alloc | apply Kd.R_drewN | apply Kd.R_drew)); exact HO112.out) hb); have n2_ := Aside0.mk (below_step z10_ hb); clear HO103; clear HO112; clear HB; have HO103 := n0_; have HO112 := n1_; have HB := n2_; clear n0_ n1_ n2_; (try clear hb); (try clear hb2); (try clear hk); (try clear hi)))
   go_ret2
   exact ⟨z24_, z10_⟩
 ·rw [if_neg c4] at H
  have c4b0 := beq_eq_false_iff_ne.mpr c4
  have c4b1 := bne_iff_ne.mpr c4
  simp only [Option.some.injEq, Prod.mk.injEq] at H
  obtain ⟨rfl, rfl⟩ := H
  go_enter Tryz.func75, Tryz.ntmps75
  go_wp2_with (first | ((with_reducible refine gate_dst (N := 12) rfl ?_); refine Kd.R_lit Kd.string _ 39 ?hg (N := 12) ?hd (xs := ([a0, a1] : List ByteArray)) (inner := [.string a0, .string a1]) (ok := fun _ => True) (okp := fun _ => True) ?hr ?hp (fun _ hk => hk) trivial (Below.refl _ _) (Nat.le_refl _) (by simp) ?_; (case hd => rfl); (case hg => rfl); (case hr => first | (go_simp; done) | (go_simp; rfl)); (case hp => exact (Reps.one (show Kd.M Kd.string _ _ _ a0 [.string a0] from rfl) (Reps.one (show Kd.M Kd.string _ _ _ a1 [.string a1] from rfl) (Reps.none _ _)))); intro v102 w24 ho25 hb hg_ hnew_; clear hg_ hnew_; (first | rw [← Ny101.out] at ho25 | (simp only [Int.reduceToNat] at ho25; rw [← Ny101.out] at ho25)); have n0_ := Aside0.mk (Kd.R_lower ho25 (below_size z10_)); have n1_ := Aside0.mk (below_step z10_ hb); clear HB; have HO103 := n0_; have HB := n1_; clear n0_ n1_; clear hb ho25; obtain ⟨Ao26, co26, eo26⟩ := Kd.R_slice HO103.out; subst eo26) | ((with_reducible refine gate_callee (f := 101) rfl ?_); refine goesL_ (some 13) rfl rfl Tryz.func101 (by kernel_rfl) rfl #[.slice Ao26 y101.length co26] rfl z9_ ?_; (with_reducible refine (whole_all.calls _ _ y101 t104 _ ?side1 ?side2 A3.out).mono ?_); (case side1 => repeat (first | exact (Kd.R_reads' HO103.out).2.2 | (with_reducible refine Kd.C_alloc ?_ _) | (with_reducible refine Kd.C_drewN ?_ _) | (with_reducible refine Kd.C_drew ?_))); (case side2 => exact (Kd.R_reads' HO103.out).2.1); rintro e w27 ⟨rfl, hb⟩; refine ⟨_, rfl, ?_⟩; have n0_ := Aside0.mk (Kd.R_below z13_ hb); have n1_ := Aside0.mk (below_step z10_ hb); clear HO103; clear HB; have HO103 := n0_; have HB := n1_; clear n0_ n1_; (try clear hb); (try clear hb2); (try clear hk); (try clear hi)))
  go_ret2
  exact ⟨z24_, z10_⟩
def whole_Sub.f (a0 : ByteArray) (a1 : ByteArray) : Option (ByteArray × Int) := (whole_all.f (([a0, a1] : List ByteArray))).bind fun t118 => (if t118 = 0 then ((whole_opposite.f a1).bind fun t119 => ((whole_Add.f a0 t119).bind fun bt120 => (some (bt120.1, bt120.2)))) else (some ((⟨#[]⟩ : ByteArray), t118)))
set_option maxHeartbeats 8000000 in
set_option maxRecDepth 100000 in
theorem whole_Sub.calls (a0 : ByteArray) (a1 : ByteArray) (r1 : ByteArray) (r2 : Int) (w : World) (h : whole_Sub.f a0 a1 = some (r1, r2)) (HT : Aside0 (Tabs w)) :
  Calls Tryz.prog 120 #[.string a0, .string a1] w fun e w' => e = .returned (.tuple #[.string r1, .int .i64 r2]) ∧ Below w.heap.size w w' := by
 have HB := Aside0.mk (Below.refl w.heap.size w)
 have H : ((whole_all.f (([a0, a1] : List ByteArray))).bind fun t118 => (if t118 = 0 then ((whole_opposite.f a1).bind fun t119 => ((whole_Add.f a0 t119).bind fun bt120 => (some (bt120.1, bt120.2)))) else (some ((⟨#[]⟩ : ByteArray), t118)))) = some (r1, r2) := h
 clear h
 obtain ⟨y115, hy115⟩ : ∃ y_ : List ByteArray, y_ = (([a0, a1] : List ByteArray)) := ⟨_, rfl⟩
 replace H : ((whole_all.f y115).bind fun t118 => (if t118 = 0 then ((whole_opposite.f a1).bind fun t119 => ((whole_Add.f a0 t119).bind fun bt120 => (some (bt120.1, bt120.2)))) else (some ((⟨#[]⟩ : ByteArray), t118)))) = some (r1, r2) := by first | (rw [hy115]; with_reducible exact H) | (have H2_ := (Option.bind_some _ _).symm.trans H; rw [hy115]; with_reducible exact H2_) | (have H2_ := (Option.bind_some _ _).symm.trans H; with_reducible exact H2_) | with_reducible exact H | (rw [hy115]; exact H) | exact H
 have Ny115 := Aside0.mk hy115
 clear hy115
 obtain ⟨t118, A3, H⟩ := bindA H
 by_cases c4 : t118 = 0
 ·rw [if_pos c4] at H
  have c4b0 := beq_iff_eq.mpr c4
  have c4b1 := bne_eq_false_iff_eq.mpr c4
  clear c4
  obtain ⟨t119, A5, H⟩ := bindA H
  obtain ⟨⟨t120, t121⟩, A6, H⟩ := bindA H
  dsimp only at H
  simp only [Option.some.injEq, Prod.mk.injEq] at H
  obtain ⟨rfl, rfl⟩ := H
  go_enter Tryz.func120, Tryz.ntmps120
  go_wp2_with (first | ((with_reducible refine gate_dst (N := 9) rfl ?_); refine Kd.R_lit Kd.string _ 39 ?hg (N := 9) ?hd (xs := ([a0, a1] : List ByteArray)) (inner := [.string a0, .string a1]) (ok := fun _ => True) (okp := fun _ => True) ?hr ?hp (fun _ hk => hk) trivial (Below.refl _ _) (Nat.le_refl _) (by simp) ?_; (case hd => rfl); (case hg => rfl); (case hr => first | (go_simp; done) | (go_simp; rfl)); (case hp => exact (Reps.one (show Kd.M Kd.string _ _ _ a0 [.string a0] from rfl) (Reps.one (show Kd.M Kd.string _ _ _ a1 [.string a1] from rfl) (Reps.none _ _)))); intro v116 w7 ho8 hb hg_ hnew_; clear hg_ hnew_; (first | rw [← Ny115.out] at ho8 | (simp only [Int.reduceToNat] at ho8; rw [← Ny115.out] at ho8)); have n0_ := Aside0.mk (Kd.R_lower ho8 (below_size z10_)); have n1_ := Aside0.mk (below_step z10_ hb); clear HB; have HO117 := n0_; have HB := n1_; clear n0_ n1_; clear hb ho8; obtain ⟨Ao9, co9, eo9⟩ := Kd.R_slice HO117.out; subst eo9) | ((with_reducible refine gate_callee (f := 101) rfl ?_); refine goesL_ (some 10) rfl rfl Tryz.func101 (by kernel_rfl) rfl #[.slice Ao9 y115.length co9] rfl z9_ ?_; (with_reducible refine (whole_all.calls _ _ y115 t118 _ ?side1 ?side2 A3.out).mono ?_); (case side1 => repeat (first | exact (Kd.R_reads' HO117.out).2.2 | (with_reducible refine Kd.C_alloc ?_ _) | (with_reducible refine Kd.C_drewN ?_ _) | (with_reducible refine Kd.C_drew ?_))); (case side2 => exact (Kd.R_reads' HO117.out).2.1); rintro e w10 ⟨rfl, hb⟩; refine ⟨_, rfl, ?_⟩; have n0_ := Aside0.mk (Kd.R_below (by (with_reducible repeat (first | apply Kd.R_alloc | apply Kd.R_drewN | apply Kd.R_drew)); exact HO117.out) hb); have n1_ := Aside0.mk (below_step z10_ hb); clear HO117; clear HB; have HO117 := n0_; have HB := n1_; clear n0_ n1_; (try clear hb); (try clear hb2); (try clear hk); (try clear hi)) | (refine gz (f := 149) rfl (some 16) rfl Tryz.func149 (whole_opposite.calls a1 t119 _ A5.out) ?_; rintro w11 hb; have n0_ := Aside0.mk (Kd.R_below (by (with_reducible repeat (first | apply Kd.R_alloc | apply Kd.R_drewN | apply Kd.R_drew)); exact HO117.out) hb); have n1_ := Aside0.mk (below_step z10_ hb); clear HO117; clear HB; have HO117 := n0_; have HB := n1_; clear n0_ n1_; (try clear hb); (try clear hb2); (try clear hk); (try clear hi)) | (refine gz (f := 75) rfl (some 17) rfl Tryz.func75 (whole_Add.calls a0 t119 t120 t121 _ A6.out (Aside0.mk (Tabs.below HT.out z4_))) ?_; rintro w12 hb; have n0_ := Aside0.mk (Kd.R_below (by (with_reducible repeat (first | apply Kd.R_alloc | apply Kd.R_drewN | apply Kd.R_drew)); exact HO117.out) hb); have n1_ := Aside0.mk (below_step z10_ hb); clear HO117; clear HB; have HO117 := n0_; have HB := n1_; clear n0_ n1_; (try clear hb); (try clear hb2); (try clear hk); (try clear hi)))
  go_ret2
  exact ⟨z24_, z10_⟩
 ·rw [if_neg c4] at H
  have c4b0 := beq_eq_false_iff_ne.mpr c4
  have c4b1 := bne_iff_ne.mpr c4
  simp only [Option.some.injEq, Prod.mk.injEq] at H
  obtain ⟨rfl, rfl⟩ := H
  go_enter Tryz.func120, Tryz.ntmps120
  go_wp2_with (first | ((with_reducible refine gate_dst (N := 9) rfl ?_); refine Kd.R_lit Kd.string _ 39 ?hg (N := 9) ?hd (xs := ([a0, a1] : List ByteArray)) (inner := [.string a0, .string a1]) (ok := fun _ => True) (okp := fun _ => True) ?hr ?hp (fun _ hk => hk) trivial (Below.refl _ _) (Nat.le_refl _) (by simp) ?_; (case hd => rfl); (case hg => rfl); (case hr => first | (go_simp; done) | (go_simp; rfl)); (case hp => exact (Reps.one (show Kd.M Kd.string _ _ _ a0 [.string a0] from rfl) (Reps.one (show Kd.M Kd.string _ _ _ a1 [.string a1] from rfl) (Reps.none _ _)))); intro v116 w13 ho14 hb hg_ hnew_; clear hg_ hnew_; (first | rw [← Ny115.out] at ho14 | (simp only [Int.reduceToNat] at ho14; rw [← Ny115.out] at ho14)); have n0_ := Aside0.mk (Kd.R_lower ho14 (below_size z10_)); have n1_ := Aside0.mk (below_step z10_ hb); clear HB; have HO117 := n0_; have HB := n1_; clear n0_ n1_; clear hb ho14; obtain ⟨Ao15, co15, eo15⟩ := Kd.R_slice HO117.out; subst eo15) | ((with_reducible refine gate_callee (f := 101) rfl ?_); refine goesL_ (some 10) rfl rfl Tryz.func101 (by kernel_rfl) rfl #[.slice Ao15 y115.length co15] rfl z9_ ?_; (with_reducible refine (whole_all.calls _ _ y115 t118 _ ?side1 ?side2 A3.out).mono ?_); (case side1 => repeat (first | exact (Kd.R_reads' HO117.out).2.2 | (with_reducible refine Kd.C_alloc ?_ _) | (with_reducible refine Kd.C_drewN ?_ _) | (with_reducible refine Kd.C_drew ?_))); (case side2 => exact (Kd.R_reads' HO117.out).2.1); rintro e w16 ⟨rfl, hb⟩; refine ⟨_, rfl, ?_⟩; have n0_ := Aside0.mk (Kd.R_below (by (with_reducible repeat (first | apply Kd.R_alloc | apply Kd.R_drewN | apply Kd.R_drew)); exact HO117.out) hb); have n1_ := Aside0.mk (below_step z10_ hb); clear HO117; clear HB; have HO117 := n0_; have HB := n1_; clear n0_ n1_; (try clear hb); (try clear hb2); (try clear hk); (try clear hi)))
  go_ret2
  exact ⟨z24_, z10_⟩
def whole_Quo.f (a0 : ByteArray) (a1 : ByteArray) : Option (ByteArray × Int) := (whole_parted.f a0 a1).bind fun bt122 => (if bt122.2.2 = 0 then ((whole_Check.f bt122.1).bind fun t125 => (if t125 = 0 then (some (bt122.1, 0)) else (some ((⟨#[]⟩ : ByteArray), t125)))) else (some ((⟨#[]⟩ : ByteArray), bt122.2.2)))
set_option maxHeartbeats 8000000 in
set_option maxRecDepth 100000 in
theorem whole_Quo.calls (a0 : ByteArray) (a1 : ByteArray) (r1 : ByteArray) (r2 : Int) (w : World) (h : whole_Quo.f a0 a1 = some (r1, r2)) (HT : Aside0 (Tabs w)) :
  Calls Tryz.prog 61 #[.string a0, .string a1] w fun e w' => e = .returned (.tuple #[.string r1, .int .i64 r2]) ∧ Below w.heap.size w w' := by
 have HB := Aside0.mk (Below.refl w.heap.size w)
 have H : ((whole_parted.f a0 a1).bind fun bt122 => (if bt122.2.2 = 0 then ((whole_Check.f bt122.1).bind fun t125 => (if t125 = 0 then (some (bt122.1, 0)) else (some ((⟨#[]⟩ : ByteArray), t125)))) else (some ((⟨#[]⟩ : ByteArray), bt122.2.2)))) = some (r1, r2) := h
 clear h
 obtain ⟨⟨t122, t123, t124⟩, A3, H⟩ := bindA H
 dsimp only at H
 by_cases c4 : t124 = 0
 ·rw [if_pos c4] at H
  have c4b0 := beq_iff_eq.mpr c4
  have c4b1 := bne_eq_false_iff_eq.mpr c4
  clear c4
  obtain ⟨t125, A5, H⟩ := bindA H
  by_cases c6 : t125 = 0
  ·rw [if_pos c6] at H
   have c6b0 := beq_iff_eq.mpr c6
   have c6b1 := bne_eq_false_iff_eq.mpr c6
   clear c6
   simp only [Option.some.injEq, Prod.mk.injEq] at H
   obtain ⟨rfl, rfl⟩ := H
   go_enter Tryz.func61, Tryz.ntmps61
   go_wp2_with (first | (refine gy (f := 103) rfl (some 13) rfl Tryz.func103 (whole_parted.calls a0 a1 t122 t123 t124 _ A3.out (Aside0.mk (Tabs.below HT.out z4_))) z10_ ?_; clear HB; intro w7 HB) | (refine gy (f := 48) rfl (some 21) rfl Tryz.func48 (whole_Check.calls t122 t125 _ A5.out) z10_ ?_; clear HB; intro w8 HB))
   go_ret2
   exact ⟨z24_, z10_⟩
  ·rw [if_neg c6] at H
   have c6b0 := beq_eq_false_iff_ne.mpr c6
   have c6b1 := bne_iff_ne.mpr c6
   simp only [Option.some.injEq, Prod.mk.injEq] at H
   obtain ⟨rfl, rfl⟩ := H
   go_enter Tryz.func61, Tryz.ntmps61
   go_wp2_with (first | (refine gy (f := 103) rfl (some 13) rfl Tryz.func103 (whole_parted.calls a0 a1 t122 t123 t124 _ A3.out (Aside0.mk (Tabs.below HT.out z4_))) z10_ ?_; clear HB; intro w9 HB) | (refine gy (f := 48) rfl (some 21) rfl Tryz.func48 (whole_Check.calls t122 t125 _ A5.out) z10_ ?_; clear HB; intro w10 HB))
   go_ret2
   exact ⟨z24_, z10_⟩
 ·rw [if_neg c4] at H
  have c4b0 := beq_eq_false_iff_ne.mpr c4
  have c4b1 := bne_iff_ne.mpr c4
  simp only [Option.some.injEq, Prod.mk.injEq] at H
  obtain ⟨rfl, rfl⟩ := H
  go_enter Tryz.func61, Tryz.ntmps61
  go_wp2_with (first | (refine gy (f := 103) rfl (some 13) rfl Tryz.func103 (whole_parted.calls a0 a1 t122 t123 t124 _ A3.out (Aside0.mk (Tabs.below HT.out z4_))) z10_ ?_; clear HB; intro w11 HB))
  go_ret2
  exact ⟨z24_, z10_⟩
end Go.Proofs.YtkdpcgmnkifbbaaGreatDoor.L
end
