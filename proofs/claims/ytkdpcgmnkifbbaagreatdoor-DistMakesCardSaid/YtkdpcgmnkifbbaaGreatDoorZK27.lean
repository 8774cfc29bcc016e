/- Joined by a program of this session out of its texts, with only what the last theorem needs: Rj Rk Rl Rn Ro De DO. No conditions but those stated. -/
import Derived.Test.YtkdpcgmnkifbbaaGreatDoorZK26
import Derived.Test.YtkdpcgmnkifbbaaGreatDoorZK20
import Derived.Test.YtkdpcgmnkifbbaaGreatDoorZK25
import Derived.Test.YtkdpcgmnkifbbaaGreatDoorZK24
import Derived.Test.YtkdpcgmnkifbbaaGreatDoorZK07
set_option linter.unusedVariables false
set_option linter.unusedSimpArgs false
namespace Go.Proofs.YtkdpcgmnkifbbaaGreatDoorW.PrintMore
end Go.Proofs.YtkdpcgmnkifbbaaGreatDoorW.PrintMore
namespace Go.Proofs.YtkdpcgmnkifbbaaGreatDoorW.PrintWords
end Go.Proofs.YtkdpcgmnkifbbaaGreatDoorW.PrintWords
section
namespace Go.Proofs.YtkdpcgmnkifbbaaGreatDoor
open Go.RowKit Go.Proofs.YtkdpcgmnkifbbaaGreatDoorW.PrintWords Go.Proofs.YtkdpcgmnkifbbaaGreatDoorW.PrintMore
structure Cols (cols : List Int) (n m V : Nat) : Prop where
 len : cols.length = n
 bound : ∀ v ∈ cols, 0 ≤ v ∧ v ≤ ((81 * m : Nat) : Int)
 val : cval cols = V
theorem Cols.step {cols : List Int} {n m V : Nat} (h : Cols cols n m V) {j a b : Nat} (hj : j < n) (ha : a < 10) (hb : b < 10) : Cols (cols.set j (rd cols j + ((a * b : Nat) : Int))) n (m + 1) (V + a * b * 10 ^ (n - 1 - j)) := by
 have hjl : j < cols.length := by rw [h.len]; exact hj
 have hr : rd cols (j : Int) = cols[j] := by unfold rd; simp [List.getD, List.getElem?_eq_getElem hjl]
 have hv := h.bound _ (List.getElem_mem hjl)
 have hab : a * b ≤ 9 * 9 := Nat.mul_le_mul (by omega) (by omega)
 refine ⟨by rw [List.length_set, h.len], fun v hv2 => ?_, ?_⟩
 ·rcases List.mem_or_eq_of_mem_set hv2 with h2 | h2
  ·have := h.bound v h2; omega
  ·rw [h2, hr]; generalize a * b = ab at *; omega
 ·rw [cval_set _ _ _ hjl, h.val, h.len, hr, List.getD, List.getElem?_eq_getElem hjl, Option.getD_some]
  rw [show cols[j] + ((a * b : Nat) : Int) - cols[j] = ((a * b : Nat) : Int) from by generalize a * b = ab; clear hab hv hr h; omega]
  generalize a * b = ab
  rw [Int.natCast_add, Int.natCast_mul, Int.natCast_pow, show ((10 : Nat) : Int) = 10 from rfl]
theorem Cols.val' {cols : List Int} {n m V V' : Nat} (h : Cols cols n m V) (e : V = V') : Cols cols n m V' := e ▸ h
def pval (A B : List UInt8) (i k : Nat) (a : Nat) : Nat := dnat (A.take i) * 10 ^ (A.length - i) * dnat B + a * 10 ^ (A.length - 1 - i) * (dnat (B.take k) * 10 ^ (B.length - k))
theorem pval_step {A B : List UInt8} {i k a b : Nat} (hi : i < A.length) (hk : k < B.length) (hb : (B.getD k 0).toNat - 48 = b) : pval A B i (k + 1) a = pval A B i k a + a * b * 10 ^ (A.length + B.length - 1 - (i + k + 1)) := by
 unfold pval
 rw [dnat_take_succ B k hk, hb, show B.length - k = (B.length - (k + 1)) + 1 by omega, Nat.pow_succ, show A.length + B.length - 1 - (i + k + 1) = (A.length - 1 - i) + (B.length - (k + 1)) by omega, Nat.pow_add]
 generalize 10 ^ (A.length - 1 - i) = P
 generalize 10 ^ (B.length - (k + 1)) = Q
 grind
theorem pval_end {A B : List UInt8} {i a : Nat} (hi : i < A.length) (ha : (A.getD i 0).toNat - 48 = a) : pval A B i B.length a = dnat (A.take (i + 1)) * 10 ^ (A.length - (i + 1)) * dnat B := by
 unfold pval
 rw [dnat_take_succ A i hi, ha, List.take_length, Nat.sub_self, Nat.pow_zero, show A.length - i = (A.length - (i + 1)) + 1 by omega, Nat.pow_succ, show A.length - 1 - i = A.length - (i + 1) by omega]
 generalize 10 ^ (A.length - (i + 1)) = P
 grind
theorem pval_zero {A B : List UInt8} {i a : Nat} : pval A B i 0 a = dnat (A.take i) * 10 ^ (A.length - i) * dnat B := by
 unfold pval; rw [List.take_zero]; simp [dnat]
theorem digit_at {D : List UInt8} (h : D.all isDig = true) {j : Nat} (hj : j < D.length) : ∃ a, a < 10 ∧ bt (bas D) j = ((48 + a : Nat) : Int) ∧ (D.getD j 0).toNat - 48 = a := by
 have hd : isDig (D[j]) = true := by
  rw [List.all_eq_true] at h; exact h _ (List.getElem_mem hj)
 obtain ⟨a, ha, hc, hv⟩ := isDig_val hd
 refine ⟨a, ha, ?_, ?_⟩
 ·rw [bt_nat _ _ (by rw [bas_size]; exact hj), bas_list, List.getD, List.getElem?_eq_getElem hj, Option.getD_some, hc, dig_of a ha]
 ·rw [List.getD, List.getElem?_eq_getElem hj, Option.getD_some]; exact hv
theorem wrap_sum {x y : Int} {m : Nat} (h0 : 0 ≤ x) (h1 : x ≤ ((81 * m : Nat) : Int)) (hm : m ≤ 10000000000) (h2 : 0 ≤ y) (h3 : y ≤ 81) : wrap64 (x + y) = x + y := IntWalk.wrap64_in _ (by omega)
theorem wrap_idx {i k : Nat} (hi : i ≤ 100000) (hk : k ≤ 100000) : wrap64 ((wrap64 ((i : Int) + k)) + 1) = ((i + k + 1 : Nat) : Int) := by
 rw [IntWalk.wrap64_in ((i : Int) + k) (by omega), IntWalk.wrap64_in _ (by omega)]; omega
theorem wrap_succ {k : Nat} (hk : k ≤ 100000) : wrap64 ((k : Int) + 1) = ((k + 1 : Nat) : Int) := by rw [IntWalk.wrap64_in _ (by omega)]; omega
theorem dig_back {a : Nat} (h : a < 10) : (((48 + a : Nat) : Int) - 48) % 256 = a := by omega
theorem wrap_small {x : Nat} (h : x ≤ 81) : wrap64 (x : Int) = x := IntWalk.wrap64_in _ (by omega)
theorem l1_round (A B : List UInt8) (cols : List Int) (n m V i k a b : Nat) (hA : A.length ≤ 100000) (hB : B.length ≤ 100000) (hn : n = A.length + B.length) (hi : i < A.length) (hk : k < B.length) (ha : a < 10) (hb : b < 10) (ea : bt (bas A) i = ((48 + a : Nat) : Int)) (eb : bt (bas B) k = ((48 + b : Nat) : Int)) (hc : Cols cols n m V) (hm : m ≤ 10000000000) (r : Nat) :
  R.metrolabref01_product.l1 (r + 1) (bas A) (bas B) cols i k = R.metrolabref01_product.l1 r (bas A) (bas B) (cols.set (i + k + 1) (rd cols ((i + k + 1 : Nat) : Int) + ((a * b : Nat) : Int))) i ((k + 1 : Nat) : Int) := by
 have hlen := hc.len
 have hjl : i + k + 1 < cols.length := by omega
 have hr : rd cols ((i + k + 1 : Nat) : Int) = cols[i + k + 1] := by unfold rd; rw [Int.toNat_natCast]; simp [List.getD, List.getElem?_eq_getElem hjl]
 have hv := hc.bound _ (List.getElem_mem hjl)
 rw [← hr] at hv
 have hab : a * b ≤ 9 * 9 := Nat.mul_le_mul (by omega) (by omega)
 have c1 : (k : Int) < (B.length : Int) := by omega
 have c2 : (0 : Int) ≤ ((i + k + 1 : Nat) : Int) := by omega
 have c3 : ((i + k + 1 : Nat) : Int) < (cols.length : Int) := by omega
 have c4 : (0 : Int) ≤ (i : Int) := by omega
 have c5 : (i : Int) < (A.length : Int) := by omega
 have c6 : (0 : Int) ≤ (k : Int) := by omega
 have e4 : (a : Int) * b = ((a * b : Nat) : Int) := (Int.natCast_mul a b).symm
 have e5 := wrap_sum (y := ((a * b : Nat) : Int)) hv.1 hv.2 hm (Int.natCast_nonneg _) (Int.ofNat_le.2 hab)
 rw [R.metrolabref01_product.l1, bas_size, bas_size, if_pos c1, wrap_idx (by omega) (by omega), if_pos c2, if_pos c3, if_pos c4, if_pos c5, if_pos c6, ea, eb, dig_back ha, dig_back hb, e4, wrap_small hab, e5, wrap_succ (by omega), Int.toNat_natCast]
theorem product_l1 (A B : List UInt8) (res : ByteArray) (n i a : Nat) (hA : A.length ≤ 100000) (hB : B.length ≤ 100000) (hn : n = A.length + B.length) (dB : B.all isDig = true) (hi : i < A.length) (ha : a < 10) (ea : bt (bas A) i = ((48 + a : Nat) : Int)) (ea2 : (A.getD i 0).toNat - 48 = a)
  (hnext : ∀ cols, Cols cols n ((i + 1) * B.length) (dnat (A.take (i + 1)) * 10 ^ (A.length - (i + 1)) * dnat B) → Runs (fun k => R.metrolabref01_product.l0 k (bas A) (bas B) cols ((i + 1 : Nat) : Int)) res)
  (d k : Nat) (hd : k + d = B.length) (cols : List Int) (hc : Cols cols n (i * B.length + k) (pval A B i k a)) :
  Runs (fun r => R.metrolabref01_product.l1 r (bas A) (bas B) cols i k) res := by
 have hib : i * B.length ≤ 100000 * 100000 := Nat.mul_le_mul (by omega) hB
 induction d generalizing k cols with
 | zero =>
  have hk : k = B.length := by omega
  subst hk
  rw [pval_end hi ea2] at hc
  rw [show i * B.length + B.length = (i + 1) * B.length by rw [Nat.succ_mul]] at hc
  refine Runs.succ (hnext cols hc) fun r => ?_
  have e6 : wrap64 ((i : Int) + 1) = ((i + 1 : Nat) : Int) := by rw [IntWalk.wrap64_in _ (by omega)]; omega
  rw [R.metrolabref01_product.l1, bas_size, bas_size, if_neg (by omega), e6]
 | succ d ih =>
  have hk : k < B.length := by omega
  obtain ⟨b, hb, eb, eb2⟩ := digit_at dB hk
  have hs := (hc.step (j := i + k + 1) (a := a) (b := b) (by omega) ha hb).val' (show _ = pval A B i (k + 1) a by rw [hn]; exact (pval_step hi hk eb2).symm)
  have hib2 : (i + 1) * B.length ≤ 100000 * 100000 := Nat.mul_le_mul (by omega) hB
  rw [Nat.succ_mul] at hib2
  refine Runs.succ (ih (k + 1) (by omega) _ hs) fun r => ?_
  exact l1_round A B cols n _ _ i k a b hA hB hn hi hk ha hb ea eb hc (by omega) r
theorem product_l0 (A B : List UInt8) (n : Nat) (hA : A.length ≤ 100000) (hB : B.length ≤ 100000) (hn : n = A.length + B.length) (h0 : 0 < n) (dA : A.all isDig = true) (dB : B.all isDig = true)
  (d i : Nat) (hd : i + d = A.length) (cols : List Int) (hc : Cols cols n (i * B.length) (dnat (A.take i) * 10 ^ (A.length - i) * dnat B)) :
  Runs (fun r => R.metrolabref01_product.l0 r (bas A) (bas B) cols i) (dtx (dnat A * dnat B)) := by
 induction d generalizing i cols with
 | zero =>
  have hi : i = A.length := by omega
  subst hi
  rw [List.take_length, Nat.sub_self, Nat.pow_zero, Nat.mul_one] at hc
  have hm : A.length * B.length ≤ 100000 * 100000 := Nat.mul_le_mul hA hB
  have hlt : dnat A * dnat B < 10 ^ n := by
   rw [hn, Nat.pow_add]
   exact Nat.mul_lt_mul_of_lt_of_le (dnat_lt dA) (Nat.le_of_lt (dnat_lt dB)) (Nat.pow_pos (by decide))
  have hl := product_l2 cols n (dnat A * dnat B) (81 * (A.length * B.length)) hc.len h0 (by omega) (by omega) hc.bound hc.val hlt n (Nat.le_refl _) 0 (by omega) (List.replicate n 0) [] (by simp) (by simp) rfl
   (by rw [← hc.len, List.take_length, hc.val, Nat.sub_self]; simp [dnat])
  refine Runs.succ hl fun r => ?_
  rw [R.metrolabref01_product.l0, bas_size, if_neg (by omega), hc.len, if_pos (by omega), if_pos (by omega), IntWalk.wrap64_in _ (by omega), Int.toNat_natCast]
  simp [numsOf]
 | succ d ih =>
  have hi : i < A.length := by omega
  obtain ⟨a, ha, ea, ea2⟩ := digit_at dA hi
  have hl := product_l1 A B (dtx (dnat A * dnat B)) n i a hA hB hn dB hi ha ea ea2 (fun cols' hc' => ih (i + 1) (by omega) cols' hc') B.length 0 (by omega) cols (hc.val' pval_zero.symm)
  refine Runs.succ hl fun r => ?_
  rw [R.metrolabref01_product.l0, bas_size, if_pos (by omega)]; rfl
theorem product_f (x y : Nat) (hx : (dtx x).size ≤ 100000) (hy : (dtx y).size ≤ 100000) : Runs (fun k => R.metrolabref01_product.f k (dtx x) (dtx y)) (dtx (x * y)) := by
 have hx2 : (Lib.decDigits x).length ≤ 100000 := by rw [← dtx_size]; exact hx
 have hy2 : (Lib.decDigits y).length ≤ 100000 := by rw [← dtx_size]; exact hy
 have hp := dtx_pos x
 have hl := product_l0 (Lib.decDigits x) (Lib.decDigits y) ((dtx x).size + (dtx y).size) hx2 hy2 (by rw [dtx_size, dtx_size]) (by omega) (dd_all x) (dd_all y) (Lib.decDigits x).length 0 (by omega) (List.replicate ((dtx x).size + (dtx y).size) 0)
  ⟨by simp, fun v hv => by rw [(List.mem_replicate.1 hv).2]; omega, by rw [cval_zero, List.take_zero]; simp [dnat]⟩
 rw [dnat_dd, dnat_dd] at hl
 refine Runs.congr hl fun k => ?_
 have e1 : wrap64 (((dtx x).size : Int) + ((dtx y).size : Int)) = (((dtx x).size + (dtx y).size : Nat) : Int) := by rw [IntWalk.wrap64_in _ (by omega)]; omega
 unfold R.metrolabref01_product.f
 rw [e1, if_pos (by omega), if_pos (by omega), Int.toNat_natCast]; rfl
end Go.Proofs.YtkdpcgmnkifbbaaGreatDoor
end
section
namespace Go.Proofs.YtkdpcgmnkifbbaaGreatDoor
open Go.RowKit Go.Proofs.YtkdpcgmnkifbbaaGreatDoorW.PrintWords Go.Proofs.YtkdpcgmnkifbbaaGreatDoorW.PrintMore
theorem dtx_le_itx (u : Int) : (dtx u.natAbs).size ≤ (itx u).size := by
 rw [dtx_size, Lib.size_eq, ← itx_digs]; exact digs_len _
theorem lt_of_size {m n : Nat} (h : (dtx m).size ≤ n) : m < 10 ^ n := by
 have h0 := dtx_pos m
 obtain ⟨k, rfl⟩ : ∃ k, n = k + 1 := ⟨n - 1, by omega⟩
 rw [dtx_size] at h; exact (dd_le_iff m k).1 h
theorem size_of_lt {m n : Nat} (h : m < 10 ^ n) (h0 : 0 < n) : (dtx m).size ≤ n := by
 obtain ⟨k, rfl⟩ : ∃ k, n = k + 1 := ⟨n - 1, by omega⟩
 rw [dtx_size]; exact (dd_le_iff m k).2 h
theorem dtx_mul {x y a b : Nat} (hx : (dtx x).size ≤ a) (hy : (dtx y).size ≤ b) : (dtx (x * y)).size ≤ a + b := by
 have h1 := lt_of_size hx
 have h2 := lt_of_size hy
 refine size_of_lt ?_ (by have := dtx_pos x; omega)
 rw [Nat.pow_add]
 exact Nat.mul_lt_mul_of_lt_of_le h1 (Nat.le_of_lt h2) (Nat.pow_pos (by decide))
theorem itx_size_dtx (u : Int) : (itx u).size ≤ (dtx u.natAbs).size + 1 := by
 rw [dtx_size, Lib.size_eq, itx_list]
 unfold Lib.itoa
 split
 ·rw [List.length_cons]; exact Nat.le_refl _
 ·rename_i h; rw [show u.toNat = u.natAbs by omega]; exact Nat.le_succ _
theorem times_long (u v : Int) (x y : Int) (hu : (dtx u.natAbs).size ≤ 90000) (hv : (dtx v.natAbs).size ≤ 90000) : Runs (fun k => R.metrolabref01_Times.j0 k (itx u) (itx v) x y false) (itx (u * v)) := by
 have hb : Runs (fun k => (R.metrolabref01_product.f k (dtx u.natAbs) (dtx v.natAbs)).bind fun t165 => ((R.metrolabref01_signed.f t165 (decide (u < 0) != decide (v < 0))).bind fun t168 => (some t168))) (itx (u * v)) := by
  refine Runs.bind (product_f _ _ (by omega) (by omega)) ?_
  have hz := dtx_mul hu hv
  rw [signed_f _ _ (by omega), sg_mul, Option.bind_some]
  exact Runs.pure _
 refine Runs.succ hb fun k => ?_
 rw [R.metrolabref01_Times.j0, if_neg (by decide), size_itx, size_itx, below_itx, below_itx, Option.bind_some, Option.bind_some]
 congr 1
theorem ref_times (u v : Int) (hu : (dtx u.natAbs).size ≤ 90000) (hv : (dtx v.natAbs).size ≤ 90000) : Runs (fun k => R.metrolabref01_Times.f k (itx u) (itx v)) (itx (u * v)) := by
 unfold R.metrolabref01_Times.f
 refine Runs.bind (brief_f u v) ?_
 by_cases h : (dtx u.natAbs).size ≤ 18 ∧ (dtx v.natAbs).size ≤ 18
 ·rw [if_pos h]
  simp only [if_true]
  have hs1 := itx_size_dtx u
  have hs2 := itx_size_dtx v
  have e1 : wrap64 (((itx u).size : Int) + ((itx v).size : Int)) = (((itx u).size + (itx v).size : Nat) : Int) := by rw [IntWalk.wrap64_in _ (by omega)]; omega
  rw [e1]
  by_cases h18 : (itx u).size + (itx v).size ≤ 18
  ·rw [decide_eq_true (by omega)]
   have hm := dtx_mul (dtx_le_itx u) (dtx_le_itx v)
   have hlt : u.natAbs * v.natAbs < 10 ^ 18 := lt_of_size (by omega)
   have hlt2 : (u * v).natAbs < 10 ^ 18 := by rw [Int.natAbs_mul]; exact hlt
   refine Runs.succ (f := fun k => (R.metrolabref01_Of.f k (u * v)).bind fun t162 => (some t162)) (Runs.bind (ref_of (u * v) (by omega) (by omega)) (Runs.pure _)) fun k => ?_
   rw [R.metrolabref01_Times.j0, if_pos rfl, IntWalk.wrap64_in _ (by omega)]
  ·rw [decide_eq_false (by omega)]
   exact times_long u v u v hu hv
 ·rw [if_neg h]
  simp only [Bool.false_eq_true, if_false]
  exact times_long u v 0 0 hu hv
end Go.Proofs.YtkdpcgmnkifbbaaGreatDoor
end
section
namespace Go.Proofs.YtkdpcgmnkifbbaaGreatDoor
open Go.RowKit Go.Proofs.YtkdpcgmnkifbbaaGreatDoorW.PrintWords Go.Proofs.YtkdpcgmnkifbbaaGreatDoorW.PrintMore
def prow (i j : Nat) : List ByteArray := (List.range j).map fun t => itx (ch i t : Nat)
theorem prow_len (i j : Nat) : (prow i j).length = j := by unfold prow; simp
theorem prow_succ (i j : Nat) : prow i (j + 1) = prow i j ++ [itx (ch i j : Nat)] := by unfold prow; rw [List.range_succ, List.map_append]; rfl
theorem prow_at (i j t : Nat) (h : t < j) : rdOf ByteArray.empty (prow i j) (t : Int) = itx (ch i t : Nat) := by
 unfold rdOf prow
 rw [Int.toNat_natCast]
 simp [List.getD, h]
theorem dtx_pow2 {m : Nat} (h : m ≤ 1073741824) : (dtx m).size ≤ 18 := size_of_lt (by omega) (by decide)
theorem chosen_l1 (n kk i : Nat) (hi : i + 1 ≤ n) (hn : n ≤ 30) (res : ByteArray) (hnext : Runs (fun k => R.metrolabref01_Chosen.l0 k n kk (prow (i + 1) (i + 2)) ((i + 2 : Nat) : Int)) res)
  (d j : Nat) (hd : j + 1 + d = i + 1) : Runs (fun k => R.metrolabref01_Chosen.l1 k n kk (prow i (i + 1)) ((i + 1 : Nat) : Int) (prow (i + 1) (j + 1)) ((j + 1 : Nat) : Int)) res := by
 induction d generalizing j with
 | zero =>
  have hj : j = i := by omega
  subst hj
  have e : prow (j + 1) (j + 1) ++ [(⟨#[49]⟩ : ByteArray)] = prow (j + 1) (j + 2) := by rw [prow_succ _ (j + 1), ch_self, one_text]; rfl
  refine Runs.succ hnext fun k => ?_
  rw [R.metrolabref01_Chosen.l1, if_neg (by omega), prow_len, if_pos (by omega), e, wrap_succ (by omega)]
 | succ d ih =>
  have hplus := ref_plus (ch i j : Nat) (ch i (j + 1) : Nat) (Nat.le_trans (dtx_pow2 (ch_small (by omega))) (by decide)) (Nat.le_trans (dtx_pow2 (ch_small (by omega))) (by decide))
  have e : (((ch i j : Nat) : Int) + ((ch i (j + 1) : Nat) : Int)) = ((ch (i + 1) (j + 1) : Nat) : Int) := by rw [ch]; push_cast; rfl
  rw [e] at hplus
  have hn2 := ih (j + 1) (by omega)
  rw [prow_succ _ (j + 1)] at hn2
  refine Runs.succ (Runs.bind (f := fun k t218 => R.metrolabref01_Chosen.l1 k n kk (prow i (i + 1)) ((i + 1 : Nat) : Int) (prow (i + 1) (j + 1) ++ [t218]) ((j + 1 + 1 : Nat) : Int)) hplus hn2) fun k => ?_
  have w1 : wrap64 (((j + 1 : Nat) : Int) - 1) = (j : Int) := by rw [IntWalk.wrap64_in _ (by omega)]; omega
  rw [R.metrolabref01_Chosen.l1, if_pos (by omega), w1, prow_len, if_pos (by omega), if_pos (by omega), if_pos (by omega), if_pos (by omega), prow_at _ _ _ (by omega), prow_at _ _ _ (by omega), prow_len, wrap_succ (by omega)]
  congr 1
  funext t
  rw [if_pos (by omega)]
theorem chosen_l0 (n kk : Nat) (hk : kk ≤ n) (hn : n ≤ 30) (d i : Nat) (hd : i + d = n) : Runs (fun k => R.metrolabref01_Chosen.l0 k n kk (prow i (i + 1)) ((i + 1 : Nat) : Int)) (itx (ch n kk : Nat)) := by
 induction d generalizing i with
 | zero =>
  have hi : i = n := by omega
  subst hi
  refine Runs.succ (Runs.pure _) fun k => ?_
  rw [R.metrolabref01_Chosen.l0, if_neg (by omega), if_pos (by omega), prow_len, if_pos (by omega), prow_at _ _ _ (by omega)]
 | succ d ih =>
  have hl := chosen_l1 n kk i (by omega) hn _ (ih (i + 1) (by omega)) i 0 (by omega)
  refine Runs.succ hl fun k => ?_
  have e : prow (i + 1) (0 + 1) = [(⟨#[49]⟩ : ByteArray)] := by rw [prow_succ, ch_zero, one_text]; rfl
  rw [R.metrolabref01_Chosen.l0, if_pos (by omega), e]; rfl
theorem ref_chosen (n kk : Nat) (hk : kk ≤ n) (hn : n ≤ 30) : Runs (fun k => R.metrolabref01_Chosen.f k n kk) (itx (ch n kk : Nat)) := by
 have h := chosen_l0 n kk hk hn n 0 (by omega)
 have e : prow 0 (0 + 1) = [(⟨#[49]⟩ : ByteArray)] := by rw [prow_succ, ch_zero, one_text]; rfl
 rw [e] at h
 refine Runs.congr (Runs.succ (g := fun k => R.metrolabref01_Chosen.j0 k n kk false) h fun k => ?_) fun k => ?_
 ·rw [R.metrolabref01_Chosen.j0, if_neg (by decide)]; rfl
 ·unfold R.metrolabref01_Chosen.f
  rw [if_neg (by omega), decide_eq_false (by omega)]
end Go.Proofs.YtkdpcgmnkifbbaaGreatDoor
end
section
namespace Go.Proofs.YtkdpcgmnkifbbaaGreatDoor
open Go.RowKit Go.Proofs.YtkdpcgmnkifbbaaGreatDoorW.PrintWords Go.Proofs.YtkdpcgmnkifbbaaGreatDoorW.PrintMore
theorem Runs.pos {α : Type} {c : Prop} [Decidable c] {f g : Nat → Option α} {r : α} (h : c) (hr : Runs f r) : Runs (fun k => if c then f k else g k) r := by simp only [if_pos h]; exact hr
theorem Runs.neg {α : Type} {c : Prop} [Decidable c] {f g : Nat → Option α} {r : α} (h : ¬ c) (hr : Runs g r) : Runs (fun k => if c then f k else g k) r := by simp only [if_neg h]; exact hr
theorem rtx_parts (q : Rat) : rtx q = if q.den = 1 then itx q.num else (itx q.num ++ ⟨#[47]⟩) ++ itx (q.den : Int) := rfl
structure Len (n : Nat) (q : Rat) : Prop where
 num : (dtx q.num.natAbs).size ≤ n
 den : (dtx q.den).size ≤ n
theorem rtx_size_le {n : Nat} {q : Rat} (h : Len n q) : (rtx q).size ≤ 2 * n + 3 := by
 have h1 := itx_size_dtx q.num
 have h2 := itx_size_dtx (q.den : Int)
 rw [Int.natAbs_natCast] at h2
 have h3 := h.num
 have h4 := h.den
 rw [rtx_parts]
 split
 ·omega
 ·rw [ByteArray.size_append, ByteArray.size_append]; show _ + 1 + _ ≤ _; omega
theorem den_ne (p q : Rat) : (p.den : Int) * q.den ≠ 0 := by
 have h1 := p.den_nz
 have h2 := q.den_nz
 have := Nat.mul_pos (Nat.pos_of_ne_zero h1) (Nat.pos_of_ne_zero h2)
 have e : (p.den : Int) * q.den = ((p.den * q.den : Nat) : Int) := (Int.natCast_mul _ _).symm
 rw [e]; omega
theorem rat_sub (p q : Rat) : Rat.divInt (p.num * q.den - q.num * p.den) ((p.den : Int) * q.den) = p - q := by
 have h := Rat.divInt_sub_divInt p.num q.num (d₁ := p.den) (d₂ := q.den) (by have := p.den_nz; omega) (by have := q.den_nz; omega)
 rw [Rat.num_divInt_den, Rat.num_divInt_den] at h
 exact h.symm
theorem rat_mul (p q : Rat) : Rat.divInt (p.num * q.num) ((p.den : Int) * q.den) = p * q := by
 have h := Rat.divInt_mul_divInt p.num q.num (d₁ := p.den) (d₂ := q.den)
 rw [Rat.num_divInt_den, Rat.num_divInt_den] at h
 exact h.symm
def cmpq (p q : Rat) : Int := cmpv (p.num * q.den) (q.num * p.den)
theorem rtx_int (v : Int) : rtx (v : Rat) = itx v := by rw [rtx_parts, if_pos (by rfl)]; rfl
end Go.Proofs.YtkdpcgmnkifbbaaGreatDoor
end
section
namespace Go.Proofs.YtkdpcgmnkifbbaaGreatDoor
open Go.RowKit Go.Proofs.YtkdpcgmnkifbbaaGreatDoorW.PrintWords Go.Proofs.YtkdpcgmnkifbbaaGreatDoorW.PrintMore
structure Bd (e : Nat) (q : Rat) : Prop where
 num : q.num.natAbs < 10 ^ e
 den : q.den < 10 ^ e
theorem fits_exp2 {v : Int} {e : Nat} (h : v.natAbs < 10 ^ e) (he : e ≤ 1024) : fits v := Nat.lt_of_lt_of_le h (Nat.pow_le_pow_right (by decide) he)
theorem Bd.mono {a b : Nat} {q : Rat} (h : Bd a q) (hab : a ≤ b) : Bd b q := ⟨Nat.lt_of_lt_of_le h.num (Nat.pow_le_pow_right (by decide) hab), Nat.lt_of_lt_of_le h.den (Nat.pow_le_pow_right (by decide) hab)⟩
theorem bd_divInt {u v : Int} {e : Nat} (hv : v ≠ 0) (hu : u.natAbs < 10 ^ e) (hv2 : v.natAbs < 10 ^ e) : Bd e (Rat.divInt u v) :=
 ⟨Nat.lt_of_le_of_lt (divInt_le hv).1 hu, Nat.lt_of_le_of_lt (divInt_le hv).2 hv2⟩
theorem mul_lt_pow {u v : Int} {a b : Nat} (hu : u.natAbs < 10 ^ a) (hv : v.natAbs < 10 ^ b) : (u * v).natAbs < 10 ^ (a + b) := by
 rw [Int.natAbs_mul, Nat.pow_add]
 exact Nat.mul_lt_mul_of_lt_of_le hu (Nat.le_of_lt hv) (Nat.pow_pos (by decide))
theorem add_lt_pow {u v : Int} {a : Nat} (hu : u.natAbs < 10 ^ a) (hv : v.natAbs < 10 ^ a) : (u + v).natAbs < 10 ^ (a + 1) := by
 rw [Nat.pow_succ]
 have := Int.natAbs_add_le u v
 generalize 10 ^ a = p at *
 omega
theorem Bd.den' {a : Nat} {q : Rat} (h : Bd a q) : ((q.den : Nat) : Int).natAbs < 10 ^ a := by rw [Int.natAbs_natCast]; exact h.den
theorem bd_mul {a b : Nat} {p q : Rat} (hp : Bd a p) (hq : Bd b q) : Bd (a + b) (p * q) := by
 rw [← rat_mul]
 exact bd_divInt (den_ne p q) (mul_lt_pow hp.num hq.num) (mul_lt_pow hp.den' hq.den')
theorem Bd.rchk {a : Nat} {q : Rat} (h : Bd a q) (ha : a ≤ 1024) : Go.Proofs.YtkdpcgmnkifbbaaGreatDoor.rchk (rtx q) = 0 := by
 rw [rchk_rtx, if_pos ⟨fits_exp2 h.num ha, fits_exp2 h.den' ha⟩]
theorem rtwo_rtx {a b : Nat} {p q : Rat} (hp : Bd a p) (hq : Bd b q) (ha : a ≤ 1024) (hb : b ≤ 1024) (r : ByteArray × Int) : rtwo (rtx p) (rtx q) r = r := by
 unfold rtwo
 rw [hp.rchk ha, hq.rchk hb, if_neg (by decide), if_neg (by decide)]
theorem mulR {a b : Nat} {p q : Rat} (hp : Bd a p) (hq : Bd b q) (hab : a + b ≤ 1024) :
  rtwo (rtx p) (rtx q) (madeR (rnum (rtx p) * rnum (rtx q)) (rden (rtx p) * rden (rtx q)) (fits (rnum (rtx p) * rnum (rtx q)) ∧ fits (rden (rtx p) * rden (rtx q)))) = (rtx (p * q), 0) := by
 rw [rtwo_rtx hp hq (by omega) (by omega), rnum_rtx, rnum_rtx, rden_rtx, rden_rtx]
 unfold madeR
 rw [if_pos ⟨fits_exp2 (mul_lt_pow hp.num hq.num) hab, fits_exp2 (mul_lt_pow hp.den' hq.den') hab⟩, rat_mul]
theorem subR {a b : Nat} {p q : Rat} (hp : Bd a p) (hq : Bd b q) (hab : a + b + 1 ≤ 1024) :
  rtwo (rtx p) (rtx q) (madeR (rnum (rtx p) * rden (rtx q) - rnum (rtx q) * rden (rtx p)) (rden (rtx p) * rden (rtx q)) (fits (rnum (rtx p) * rden (rtx q)) ∧ fits (rnum (rtx q) * rden (rtx p)) ∧ fits (rnum (rtx p) * rden (rtx q) - rnum (rtx q) * rden (rtx p)) ∧ fits (rden (rtx p) * rden (rtx q)))) = (rtx (p - q), 0) := by
 rw [rtwo_rtx hp hq (by omega) (by omega), rnum_rtx, rnum_rtx, rden_rtx, rden_rtx]
 have h1 := mul_lt_pow hp.num hq.den'
 have h2 := mul_lt_pow hq.num hp.den'
 have h3 : (p.num * q.den - q.num * p.den).natAbs < 10 ^ (a + b + 1) := by
  rw [Int.sub_eq_add_neg]; exact add_lt_pow h1 (by rw [Int.natAbs_neg, Nat.add_comm]; exact h2)
 unfold madeR
 rw [if_pos ⟨fits_exp2 h1 (by omega), fits_exp2 h2 (by omega), fits_exp2 h3 hab, fits_exp2 (mul_lt_pow hp.den' hq.den') (by omega)⟩, rat_sub]
theorem cmpR_rtx {a b : Nat} {p q : Rat} (hp : Bd a p) (hq : Bd b q) (hab : a + b ≤ 1024) : cmpR (rtx p) (rtx q) = (cmpq p q, 0) := by
 unfold cmpR cmpq
 rw [hp.rchk (by omega), hq.rchk (by omega), if_neg (by decide), if_neg (by decide), rnum_rtx, rnum_rtx, rden_rtx, rden_rtx]
 have h1 := mul_lt_pow hp.num hq.den'
 have h2 := mul_lt_pow hq.num hp.den'
 rw [if_pos ⟨fits_exp2 h1 (by omega), fits_exp2 h2 (by omega)⟩]
theorem Bd.len {a : Nat} {q : Rat} (h : Bd a q) (ha : 0 < a) {n : Nat} (hn : a ≤ n) : Len n q := ⟨Nat.le_trans (size_of_lt h.num ha) hn, Nat.le_trans (size_of_lt h.den ha) hn⟩
theorem rtx_size2 {a : Nat} {q : Rat} (h : Bd a q) (ha : 0 < a) : (rtx q).size ≤ 2 * a + 3 := rtx_size_le (h.len ha (Nat.le_refl _))
end Go.Proofs.YtkdpcgmnkifbbaaGreatDoor
end
section
namespace Go.Proofs.YtkdpcgmnkifbbaaGreatDoor
open Go.RowKit Go.Proofs.YtkdpcgmnkifbbaaGreatDoorW.PrintWords Go.Proofs.YtkdpcgmnkifbbaaGreatDoorW.PrintMore
def momq (pw : Nat) (l : List (Int × ByteArray)) : Rat := Rat.divInt (sumf (fM pw) l) (totw l)
def varq (l : List (Int × ByteArray)) : Rat := momq 2 l - momq 1 l * momq 1 l
def varR (l : List (Int × ByteArray)) : ByteArray × Int := distR l (rtx (varq l), 0)
theorem Gd.tot {l : List (Int × ByteArray)} (h : Gd l) : (totw l).natAbs < 10 ^ 77 := sum77 h.len h.fW
theorem Gd.tot0 {l : List (Int × ByteArray)} (h : Gd l) : totw l ≠ 0 := by have := sumf_pos h.ne h.pos; omega
theorem Gd.mom {l : List (Int × ByteArray)} (h : Gd l) {pw : Nat} (hp : pw ≤ 2) : Bd 77 (momq pw l) := bd_divInt h.tot0 (sum77 h.len (h.fM hp)) h.tot
theorem Gd.prob {l : List (Int × ByteArray)} (h : Gd l) (lo hi : Int) : Bd 77 (probq l lo hi) := bd_divInt h.tot0 (sum77 h.len (h.fP lo hi)) h.tot
theorem rsz {a : Nat} {q : Rat} (h : Bd a q) (ha : 0 < a) (hb : a ≤ 1000000) : (rtx q).size ≤ 4611686018427387904 := Nat.le_trans (rtx_size2 h ha) (by omega)
set_option maxRecDepth 100000 in
set_option maxHeartbeats 4000000 in
theorem var_calls (A0 : Option Addr) (c0 : Nat) (l : List (Int × ByteArray)) (w : World) (hr0 : Kd.C KP w A0 l.length l) (hc0 : l.length ≤ c0) (hok : okD l) (ht : Tabs w) :
  Calls Tryz.prog 18 #[.slice A0 l.length c0] w (TwoPost w (varR l)) := by
 have ME := Lib.hid (mean_calls A0 c0 l w hr0 hc0 hok ht)
 have HR0 := Lib.hid hr0; clear hr0
 have HC0 := Lib.hid hc0; clear hc0
 have HT := Lib.hid ht; clear ht
 by_cases h0 : dck l = 0
 ·have hgd := gd_of h0 (hok.2 h0); clear hok
  have em : meanR l = (rtx (momq 1 l), 0) := if_pos h0
  have e0 : varR l = (rtx (varq l), 0) := if_pos h0
  rw [em] at ME
  rw [e0]
  have b1 := hgd.mom (pw := 1) (by decide)
  have b2 := hgd.mom (pw := 2) (by decide)
  have b3 := bd_mul b1 b1
  have hmul := mulR b1 b1 (by decide)
  have hsub := subR b2 b3 (by decide)
  have z1 := rsz b1 (by decide) (by decide)
  have z2 := rsz b2 (by decide) (by decide)
  have z3 := rsz b3 (by decide) (by decide)
  have MU := Lib.hid fun (W : World) (hw : Tabs W) => (show Calls _ _ _ W (TwoPost W (rtx (momq 1 l * momq 1 l), 0)) from by have := rMul_calls _ _ z1 z1 W hw; rw [hmul] at this; exact this)
  have SU := Lib.hid fun (W : World) (hw : Tabs W) => (show Calls _ _ _ W (TwoPost W (rtx (varq l), 0)) from by have := rSub_calls _ _ z2 z3 W hw; rw [hsub] at this; exact this)
  have SH := Lib.hid fun (c : Nat) (W : World) (hb : Below w.heap.size w W) (k0 : W.cell? ⟨c, 0, none⟩ = some (.int .i64 (2 : Nat))) => share_M c 2 A0 c0 l W (Kd.C_below HR0.out hb) HC0.out hgd k0 (by decide) (HT.out.below hb)
  clear h0 em e0 b1 b2 b3 hmul hsub z1 z2 z3 hgd
  go_enter Tryz.func18, Tryz.ntmps18
  go_wp2_with fail
  refine ME.out.mono ?_
  rintro e w1 ⟨rfl, hb1⟩
  have HB1 := Lib.hid hb1; clear hb1
  go_wp2_with fail
  refine (moment_calls 2 w1).mono ?_
  rintro e w2 ⟨rfl, k0, hb2⟩
  have HB2 := Lib.hid (below_then HB1.out HB1.out.size hb2); clear hb2
  have K0 := Lib.hid k0; clear k0
  go_wp2_with fail
  refine (SH.out w1.heap.size w2 HB2.out K0.out).mono ?_
  rintro e w3 ⟨rfl, hb3⟩
  have HB3 := Lib.hid (below_then HB2.out HB2.out.size hb3); clear hb3
  go_wp2_with fail
  refine (MU.out w3 (HT.out.below HB3.out)).mono ?_
  rintro e w4 ⟨rfl, hb4⟩
  have HB4 := Lib.hid (below_then HB3.out HB3.out.size hb4); clear hb4
  go_wp2_with fail
  refine (SU.out w4 (HT.out.below HB4.out)).mono ?_
  rintro e w5 ⟨rfl, hb5⟩
  have HB5 := Lib.hid (below_then HB4.out HB4.out.size hb5); clear hb5
  go_wp2
  go_ret2
  exact ⟨rfl, HB5.out⟩
 ·have em : meanR l = (⟨#[]⟩, dck l) := if_neg h0
  have e0 : varR l = (⟨#[]⟩, dck l) := if_neg h0
  rw [em] at ME
  rw [e0]
  have hne : (dck l == 0) = false := beq_eq_false_iff_ne.2 h0
  clear hok h0 e0 em
  generalize dck l = d at ME hne ⊢
  go_enter Tryz.func18, Tryz.ntmps18
  go_wp2_with fail
  refine ME.out.mono ?_
  rintro e w1 ⟨rfl, hb1⟩
  have HB1 := Lib.hid hb1; clear hb1
  go_wp2
  go_ret2
  exact ⟨rfl, HB1.out⟩
end Go.Proofs.YtkdpcgmnkifbbaaGreatDoor
end
section
namespace Go.Proofs.YtkdpcgmnkifbbaaGreatDoor.D
open Go.RowKit Go.Proofs.YtkdpcgmnkifbbaaGreatDoorW.PrintWords Go.Proofs.YtkdpcgmnkifbbaaGreatDoorW.PrintMore
theorem canI {a : ByteArray} (h : form a.data.toList = true) : itx (ival a) = a := (form_eq h).symm
def okI (a : ByteArray) : Prop := form a.data.toList = true ∧ (dtx (ival a).natAbs).size ≤ 30000
instance (a : ByteArray) : Decidable (okI a) := inferInstanceAs (Decidable (_ ∧ _))
def okR (a : ByteArray) : Prop := rtx (rval a) = a ∧ (dtx (rval a).num.natAbs).size ≤ 15000 ∧ (dtx (rval a).den).size ≤ 15000
instance (a : ByteArray) : Decidable (okR a) := inferInstanceAs (Decidable (_ ∧ _))
theorem okR.len {a : ByteArray} (h : okR a) : Len 15000 (rval a) := ⟨h.2.1, h.2.2⟩
theorem okI_itx {v : Int} (h : (dtx v.natAbs).size ≤ 30000) : okI (itx v) := ⟨form_itx v, by rw [ival_itx]; exact h⟩
theorem le90 {a : ByteArray} (h : okI a) : (dtx (ival a).natAbs).size ≤ 90000 := Nat.le_trans h.2 (by decide)
def metrolabref01_Check.f (a0 : ByteArray) : Option (Int) := if a0.size ≤ 4611686018427387900 then some (chk a0) else none
theorem metrolabref01_Check.calls (a0 : ByteArray) (r : Int) (w : World) (h : metrolabref01_Check.f a0 = some r) :
  Calls Tryz.prog 51 #[.string a0] w fun e w' => e = .returned (.int .i64 r) ∧ Below w.heap.size w w' := by
 unfold metrolabref01_Check.f at h
 split at h
 ·rename_i h1
  obtain ⟨k, hk⟩ := (ref_check a0 (by omega)).get
  rw [Option.some.inj h] at hk
  refine (R.metrolabref01_Check.calls k a0 r w hk).mono ?_
  rintro e w' ⟨rfl, n, rfl⟩
  exact ⟨rfl, pw_below_drewN (Below.refl _ _) n⟩
 ·cases h
def metrolabref01_Of.f (a0 : Int) : Option (ByteArray) := if -9223372036854775808 < a0 ∧ a0 < 9223372036854775808 then some (itx a0) else none
theorem metrolabref01_Of.calls (a0 : Int) (r : ByteArray) (w : World) (h : metrolabref01_Of.f a0 = some r) :
  Calls Tryz.prog 106 #[.int .i64 a0] w fun e w' => e = .returned (.string r) ∧ Below w.heap.size w w' := by
 unfold metrolabref01_Of.f at h
 split at h
 ·rename_i h1
  obtain ⟨k, hk⟩ := (ref_of a0 h1.1 h1.2).get
  rw [Option.some.inj h] at hk
  exact R.metrolabref01_Of.calls k a0 r w hk
 ·cases h
def metrolabref01_Plus.f (a0 : ByteArray) (a1 : ByteArray) : Option (ByteArray) := if okI a0 ∧ okI a1 then some (itx (ival a0 + ival a1)) else none
theorem metrolabref01_Plus.calls (a0 : ByteArray) (a1 : ByteArray) (r : ByteArray) (w : World) (h : metrolabref01_Plus.f a0 a1 = some r) :
  Calls Tryz.prog 76 #[.string a0, .string a1] w fun e w' => e = .returned (.string r) ∧ Below w.heap.size w w' := by
 unfold metrolabref01_Plus.f at h
 split at h
 ·rename_i h1
  obtain ⟨k, hk⟩ := (show Runs (fun k => R.metrolabref01_Plus.f k a0 a1) _ from by have := ref_plus (ival a0) (ival a1) (le90 h1.1) (le90 h1.2); rwa [canI h1.1.1, canI h1.2.1] at this).get
  rw [Option.some.inj h] at hk
  exact R.metrolabref01_Plus.calls k a0 a1 r w hk
 ·cases h
def metrolabref01_Times.f (a0 : ByteArray) (a1 : ByteArray) : Option (ByteArray) := if okI a0 ∧ okI a1 then some (itx (ival a0 * ival a1)) else none
theorem metrolabref01_Times.calls (a0 : ByteArray) (a1 : ByteArray) (r : ByteArray) (w : World) (h : metrolabref01_Times.f a0 a1 = some r) :
  Calls Tryz.prog 97 #[.string a0, .string a1] w fun e w' => e = .returned (.string r) ∧ Below w.heap.size w w' := by
 unfold metrolabref01_Times.f at h
 split at h
 ·rename_i h1
  obtain ⟨k, hk⟩ := (show Runs (fun k => R.metrolabref01_Times.f k a0 a1) _ from by have := ref_times (ival a0) (ival a1) (le90 h1.1) (le90 h1.2); rwa [canI h1.1.1, canI h1.2.1] at this).get
  rw [Option.some.inj h] at hk
  exact R.metrolabref01_Times.calls k a0 a1 r w hk
 ·cases h
def metrolabref01_Chosen.f (a0 a1 : Int) : Option ByteArray := if 0 ≤ a1 ∧ a1 ≤ a0 ∧ a0 ≤ 30 then some (itx (ch a0.toNat a1.toNat : Nat)) else none
theorem metrolabref01_Chosen.calls (a0 a1 : Int) (r : ByteArray) (w : World) (h : metrolabref01_Chosen.f a0 a1 = some r) :
  Calls Tryz.prog 98 #[.int .i64 a0, .int .i64 a1] w fun e w' => e = .returned (.string r) ∧ Below w.heap.size w w' := by
 unfold metrolabref01_Chosen.f at h
 split at h
 ·rename_i h1
  obtain ⟨n, rfl⟩ : ∃ n : Nat, a0 = n := ⟨a0.toNat, by omega⟩
  obtain ⟨m, rfl⟩ : ∃ m : Nat, a1 = m := ⟨a1.toNat, by omega⟩
  obtain ⟨k, hk⟩ := (ref_chosen n m (by omega) (by omega)).get
  rw [Int.toNat_natCast, Int.toNat_natCast] at h
  rw [Option.some.inj h] at hk
  exact R.metrolabref01_Chosen.calls k _ _ r w hk
 ·cases h
theorem below_bytes {a : ByteArray} (h : form a.data.toList = true) : R.metrolabref01_Below.f a = some (decide (ival a < 0)) := by
 have := below_itx (ival a)
 rwa [canI h] at this
def metrolabref01_Below.f (a0 : ByteArray) : Option Bool := if form a0.data.toList = true then some (decide (ival a0 < 0)) else none
theorem metrolabref01_Below.calls (a0 : ByteArray) (r : Bool) (w : World) (h : metrolabref01_Below.f a0 = some r) :
  Calls Tryz.prog 92 #[.string a0] w fun e w' => e = .returned (.bool r) ∧ Below w.heap.size w w' := by
 unfold metrolabref01_Below.f at h
 split at h
 ·rename_i h1
  have hk := below_bytes h1
  rw [Option.some.inj h] at hk
  refine (R.metrolabref01_Below.calls a0 r w hk).mono ?_
  rintro e w' ⟨rfl, n, rfl⟩
  exact ⟨rfl, pw_below_drewN (Below.refl _ _) n⟩
 ·cases h
def whole_Check.f (a0 : ByteArray) : Option Int := L.whole_Check.f a0
theorem whole_Check.calls (a0 : ByteArray) (r : Int) (w : World) (h : whole_Check.f a0 = some r) :
  Calls Tryz.prog 48 #[.string a0] w fun e w' => e = .returned (.int .i64 r) ∧ Below w.heap.size w w' := L.whole_Check.calls a0 r w h
def whole_Sign.f (a0 : ByteArray) : Option (Int × Int) := E.whole_Sign.f a0
theorem whole_Sign.calls (a0 : ByteArray) (r1 r2 : Int) (w : World) (h : whole_Sign.f a0 = some (r1, r2)) :
  Calls Tryz.prog 89 #[.string a0] w fun e w' => e = .returned (.tuple #[.int .i64 r1, .int .i64 r2]) ∧ Below w.heap.size w w' := E.whole_Sign.calls a0 r1 r2 w h
def whole_Mul.f (a0 : ByteArray) (a1 : ByteArray) : Option (ByteArray × Int) := if a0.size ≤ 4611686018427387904 ∧ a1.size ≤ 4611686018427387904 then some (two a0 a1 (kept (ival a0 * ival a1))) else none
theorem whole_Mul.calls (a0 : ByteArray) (a1 : ByteArray) (r1 : ByteArray) (r2 : Int) (w : World) (h : whole_Mul.f a0 a1 = some (r1, r2)) (HT : Aside0 (Tabs w)) :
  Calls Tryz.prog 78 #[.string a0, .string a1] w fun e w' => e = .returned (.tuple #[.string r1, .int .i64 r2]) ∧ Below w.heap.size w w' := by
 unfold whole_Mul.f at h
 split at h
 ·rename_i h1
  have h2 := mul_calls a0 a1 (Nat.le_trans h1.1 (by decide)) (Nat.le_trans h1.2 (by decide)) w HT.out
  unfold TwoPost at h2
  rw [Option.some.inj h] at h2
  exact h2
 ·cases h
def whole_Gcd.f (a0 : ByteArray) (a1 : ByteArray) : Option (ByteArray × Int) := if a0.size ≤ 4611686018427387904 ∧ a1.size ≤ 4611686018427387904 then some (two a0 a1 (itx (gcdv (ival a0) (ival a1)), 0)) else none
theorem whole_Gcd.calls (a0 : ByteArray) (a1 : ByteArray) (r1 : ByteArray) (r2 : Int) (w : World) (h : whole_Gcd.f a0 a1 = some (r1, r2)) (HT : Aside0 (Tabs w)) :
  Calls Tryz.prog 60 #[.string a0, .string a1] w fun e w' => e = .returned (.tuple #[.string r1, .int .i64 r2]) ∧ Below w.heap.size w w' := by
 unfold whole_Gcd.f at h
 split at h
 ·rename_i h1
  have h2 := gcd_calls a0 a1 (Nat.le_trans h1.1 (by decide)) (Nat.le_trans h1.2 (by decide)) w HT.out
  unfold TwoPost at h2
  rw [Option.some.inj h] at h2
  exact h2
 ·cases h
def whole_Add.f (a0 a1 : ByteArray) : Option (ByteArray × Int) := L.whole_Add.f a0 a1
theorem whole_Add.calls (a0 a1 r1 : ByteArray) (r2 : Int) (w : World) (h : whole_Add.f a0 a1 = some (r1, r2)) (HT : Aside0 (Tabs w)) :
  Calls Tryz.prog 75 #[.string a0, .string a1] w fun e w' => e = .returned (.tuple #[.string r1, .int .i64 r2]) ∧ Below w.heap.size w w' := L.whole_Add.calls a0 a1 r1 r2 w h HT
def whole_Quo.f (a0 a1 : ByteArray) : Option (ByteArray × Int) := L.whole_Quo.f a0 a1
theorem whole_Quo.calls (a0 a1 r1 : ByteArray) (r2 : Int) (w : World) (h : whole_Quo.f a0 a1 = some (r1, r2)) (HT : Aside0 (Tabs w)) :
  Calls Tryz.prog 61 #[.string a0, .string a1] w fun e w' => e = .returned (.tuple #[.string r1, .int .i64 r2]) ∧ Below w.heap.size w w' := L.whole_Quo.calls a0 a1 r1 r2 w h HT
def whole_Of.f (a0 : Int) : Option ByteArray := C.whole_Of.f a0
theorem whole_Of.calls (a0 : Int) (r : ByteArray) (w : World) (h : whole_Of.f a0 = some r) (HT : Aside0 (Tabs w)) :
  Calls Tryz.prog 79 #[.int .i64 a0] w fun e w' => e = .returned (.string r) ∧ Below w.heap.size w w' := C.whole_Of.calls a0 r w h HT
def whole_Binomial.f (a0 a1 : Int) : Option (ByteArray × Int) := if 0 ≤ a1 ∧ a1 ≤ a0 ∧ a0 ≤ 30 then some (itx (ch a0.toNat a1.toNat : Nat), 0) else none
theorem whole_Binomial.calls (a0 a1 : Int) (r1 : ByteArray) (r2 : Int) (w : World) (h : whole_Binomial.f a0 a1 = some (r1, r2)) (HT : Aside0 (Tabs w)) :
  Calls Tryz.prog 55 #[.int .i64 a0, .int .i64 a1] w fun e w' => e = .returned (.tuple #[.string r1, .int .i64 r2]) ∧ Below w.heap.size w w' := by
 unfold whole_Binomial.f at h
 split at h
 ·rename_i h1
  obtain ⟨n, rfl⟩ : ∃ n : Nat, a0 = n := ⟨a0.toNat, by omega⟩
  obtain ⟨m, rfl⟩ : ∃ m : Nat, a1 = m := ⟨a1.toNat, by omega⟩
  have h3 := binomial_calls n m (by omega) (by omega) w HT.out
  unfold BinPost at h3
  rw [Int.toNat_natCast, Int.toNat_natCast] at h
  cases h
  exact h3
 ·cases h
def ratio_Check.f (a0 : ByteArray) : Option Int := if a0.size ≤ 4611686018427387904 then some (rchk a0) else none
theorem ratio_Check.calls (a0 : ByteArray) (r : Int) (w : World) (h : ratio_Check.f a0 = some r) (HT : Aside0 (Tabs w)) :
  Calls Tryz.prog 36 #[.string a0] w fun e w' => e = .returned (.int .i64 r) ∧ Below w.heap.size w w' := by
 unfold ratio_Check.f at h
 split at h
 ·rename_i h1; cases h; exact Q.ratio_Check.calls 2 a0 _ w (rcheck_f a0 h1 0) HT
 ·cases h
def ratio_Compare.f (a0 : ByteArray) (a1 : ByteArray) : Option (Int × Int) := if a0.size ≤ 4611686018427387904 ∧ a1.size ≤ 4611686018427387904 then some (cmpR a0 a1) else none
theorem ratio_Compare.calls (a0 : ByteArray) (a1 : ByteArray) (r1 : Int) (r2 : Int) (w : World) (h : ratio_Compare.f a0 a1 = some (r1, r2)) (HT : Aside0 (Tabs w)) :
  Calls Tryz.prog 37 #[.string a0, .string a1] w fun e w' => e = .returned (.tuple #[.int .i64 r1, .int .i64 r2]) ∧ Below w.heap.size w w' := by
 unfold ratio_Compare.f at h
 split at h
 ·rename_i h1
  have h2 := rCompare_calls a0 a1 h1.1 h1.2 w HT.out
  unfold CmpPost at h2
  rw [Option.some.inj h] at h2
  exact h2
 ·cases h
theorem C_map {α β : Type} {d : Kd α} {f : β → α} {w : World} {A : Option Addr} {n : Nat} {xs : List β} (h : Kd.C (Kd.iso d f) w A n xs) : Kd.C d w A n (xs.map f) := by
 refine ⟨by rw [List.length_map]; exact h.1, h.2.1, fun h0 => ?_⟩
 obtain ⟨ad, e, hc⟩ := h.2.2 h0
 refine ⟨ad, e, fun j p hp => ?_⟩
 rw [List.getElem?_map] at hp
 obtain ⟨q, hq, rfl⟩ := Option.map_eq_some_iff.1 hp
 exact hc j q hq
def prs (l : List S60) : List (Int × ByteArray) := l.map fun x => (x.f0, x.f1)
theorem prs_len (l : List S60) : (prs l).length = l.length := List.length_map _
theorem C_prs {w : World} {A : Option Addr} {l : List S60} (h : Kd.C k60 w A l.length l) : Kd.C KP w A (prs l).length (prs l) := by
 rw [prs_len]; exact C_map h
def dist_Check.f (l0 : List S60) : Option Int := if (∀ x ∈ prs l0, x.2.size ≤ 9223372036854775807) then some (dck (prs l0)) else none
theorem dist_Check.calls (A0 : Option Addr) (c0 : Nat) (l0 : List S60) (r : Int) (w : World) (hr0 : Kd.C k60 w A0 l0.length l0) (hc0 : l0.length ≤ c0) (h : dist_Check.f l0 = some r) :
  Calls Tryz.prog 20 #[.slice A0 l0.length c0] w fun e w' => e = .returned (.int .i64 r) ∧ Below w.heap.size w w' := by
 unfold dist_Check.f at h
 split at h
 ·rename_i h1
  cases h
  have := dcheck_calls A0 c0 (prs l0) w (C_prs hr0) (by rw [prs_len]; exact hc0) h1
  rw [prs_len] at this
  exact this
 ·cases h
def dist_Mean.f (l0 : List S60) : Option (ByteArray × Int) := if okD (prs l0) then some (meanR (prs l0)) else none
theorem dist_Mean.calls (A0 : Option Addr) (c0 : Nat) (l0 : List S60) (r1 : ByteArray) (r2 : Int) (w : World) (hr0 : Kd.C k60 w A0 l0.length l0) (hc0 : l0.length ≤ c0) (h : dist_Mean.f l0 = some (r1, r2)) (HT : Aside0 (Tabs w)) :
  Calls Tryz.prog 16 #[.slice A0 l0.length c0] w fun e w' => e = .returned (.tuple #[.string r1, .int .i64 r2]) ∧ Below w.heap.size w w' := by
 unfold dist_Mean.f at h
 split at h
 ·rename_i h1
  have h2 := mean_calls A0 c0 (prs l0) w (C_prs hr0) (by rw [prs_len]; exact hc0) h1 HT.out
  unfold TwoPost at h2
  rw [Option.some.inj h, prs_len] at h2
  exact h2
 ·cases h
def dist_Variance.f (l0 : List S60) : Option (ByteArray × Int) := if okD (prs l0) then some (varR (prs l0)) else none
theorem dist_Variance.calls (A0 : Option Addr) (c0 : Nat) (l0 : List S60) (r1 : ByteArray) (r2 : Int) (w : World) (hr0 : Kd.C k60 w A0 l0.length l0) (hc0 : l0.length ≤ c0) (h : dist_Variance.f l0 = some (r1, r2)) (HT : Aside0 (Tabs w)) :
  Calls Tryz.prog 18 #[.slice A0 l0.length c0] w fun e w' => e = .returned (.tuple #[.string r1, .int .i64 r2]) ∧ Below w.heap.size w w' := by
 unfold dist_Variance.f at h
 split at h
 ·rename_i h1
  have h2 := var_calls A0 c0 (prs l0) w (C_prs hr0) (by rw [prs_len]; exact hc0) h1 HT.out
  unfold TwoPost at h2
  rw [Option.some.inj h, prs_len] at h2
  exact h2
 ·cases h
def dist_Probability.f (l0 : List S60) (a1_0 a1_1 : Int) : Option (ByteArray × Int) := if okD (prs l0) then some (probR (prs l0) a1_0 a1_1) else none
theorem dist_Probability.calls (A0 : Option Addr) (c0 : Nat) (l0 : List S60) (a1_0 a1_1 : Int) (r1 : ByteArray) (r2 : Int) (w : World) (hr0 : Kd.C k60 w A0 l0.length l0) (hc0 : l0.length ≤ c0) (h : dist_Probability.f l0 a1_0 a1_1 = some (r1, r2)) (HT : Aside0 (Tabs w)) :
  Calls Tryz.prog 10 #[.slice A0 l0.length c0, .agg #[.int .i64 a1_0, .int .i64 a1_1]] w fun e w' => e = .returned (.tuple #[.string r1, .int .i64 r2]) ∧ Below w.heap.size w w' := by
 unfold dist_Probability.f at h
 split at h
 ·rename_i h1
  have h2 := prob_calls a1_0 a1_1 A0 c0 (prs l0) w (C_prs hr0) (by rw [prs_len]; exact hc0) h1 HT.out
  unfold TwoPost at h2
  rw [Option.some.inj h, prs_len] at h2
  exact h2
 ·cases h
end Go.Proofs.YtkdpcgmnkifbbaaGreatDoor.D
end
