/- Joined by a program of this session out of its texts, with only what the last theorem needs: Dig. No conditions but those stated. -/
import Derived.Lib.ItoaNum
import Derived.Lib.Atoi
import Derived.Test.YtkdpcgmnkifbbaaGreatDoorZC01
set_option linter.unusedVariables false
set_option linter.unusedSimpArgs false
namespace Go.Proofs.YtkdpcgmnkifbbaaGreatDoor
def itx (n : Int) : ByteArray := ⟨(Lib.itoa n).toArray⟩
theorem itx_list (n : Int) : (itx n).data.toList = Lib.itoa n := by simp [itx]
theorem dd_small {u : Nat} (h : u < 10) : Lib.decDigits u = [UInt8.ofNat (48 + u)] := by rw [Lib.decDigits, dif_pos h]
theorem dd_big {u : Nat} (h : ¬ u < 10) : Lib.decDigits u = Lib.decDigits (u / 10) ++ [UInt8.ofNat (48 + u % 10)] := by rw [Lib.decDigits, dif_neg h]
theorem dd_ne_nil (u : Nat) : Lib.decDigits u ≠ [] := by
 by_cases h : u < 10
 ·rw [dd_small h]; simp
 ·rw [dd_big h]; simp
def padk : Nat → Nat → List UInt8
 | 0, _ => []
 | k + 1, v => padk k (v / 10) ++ [UInt8.ofNat (48 + v % 10)]
theorem padk_zero (k : Nat) : padk k 0 = List.replicate k 48 := by
 induction k with
 | zero => rfl
 | succ k ih => simp only [padk, Nat.zero_div, ih]; rw [List.replicate_succ']; rfl
theorem dd_append (a : Nat) (ha : 0 < a) (k v : Nat) (hv : v < 10 ^ k) : Lib.decDigits (a * 10 ^ k + v) = Lib.decDigits a ++ padk k v := by
 induction k generalizing v with
 | zero => have : v = 0 := by simpa using hv
           subst this; simp [padk]
 | succ k ih =>
  have hp : 0 < 10 ^ k := Nat.pow_pos (by decide)
  have e1 : (a * 10 ^ (k + 1) + v) / 10 = a * 10 ^ k + v / 10 := by
   rw [Nat.pow_succ, ← Nat.mul_assoc]; omega
  have e2 : (a * 10 ^ (k + 1) + v) % 10 = v % 10 := by
   rw [Nat.pow_succ, ← Nat.mul_assoc]; omega
  have h1 : 1 * 10 ^ (k + 1) ≤ a * 10 ^ (k + 1) := Nat.mul_le_mul_right _ ha
  have h10 : 10 ≤ 10 ^ (k + 1) := by rw [Nat.pow_succ]; omega
  rw [dd_big (by omega), e1, e2, ih _ (by rw [Nat.pow_succ] at hv; omega)]
  simp [padk]
theorem pad_eq (k v : Nat) (hv : v < 10 ^ (k + 1)) : (Lib.decDigits v).length ≤ k + 1 ∧ List.replicate (k + 1 - (Lib.decDigits v).length) 48 ++ Lib.decDigits v = padk (k + 1) v := by
 induction k generalizing v with
 | zero =>
  have h : v < 10 := by simpa using hv
  rw [dd_small h]; simp [padk, Nat.mod_eq_of_lt h]
 | succ k ih =>
  by_cases h : v < 10
  ·rw [dd_small h]
   refine ⟨by simp, ?_⟩
   have e : padk (k + 1 + 1) v = padk (k + 1) 0 ++ [UInt8.ofNat (48 + v)] := by
    simp only [padk, Nat.div_eq_of_lt h, Nat.mod_eq_of_lt h]
   rw [e, padk_zero]; simp
  ·have h1 := ih (v / 10) (by rw [Nat.pow_succ] at hv; omega)
   rw [dd_big h]
   simp only [List.length_append, List.length_singleton]
   refine ⟨by omega, ?_⟩
   rw [show k + 1 + 1 - ((Lib.decDigits (v / 10)).length + 1) = k + 1 - (Lib.decDigits (v / 10)).length by omega, ← List.append_assoc, h1.2]
   rfl
theorem BB_pow : (10 : Nat) ^ 9 = BB := by decide
theorem dd_words (m i : Nat) (h : 0 < m / BB ^ (i + 1)) : Lib.decDigits (m / BB ^ i) = Lib.decDigits (m / BB ^ (i + 1)) ++ (List.replicate (9 - (Lib.decDigits (wd m i)).length) 48 ++ Lib.decDigits (wd m i)) := by
 have h1 := pad_eq 8 (wd m i) (wd_lt m i)
 rw [h1.2, ← dd_append _ h 9 _ (wd_lt m i), BB_pow, div_wd m i, Nat.mul_comm BB]
theorem itoa_nat (v : Nat) : Lib.itoa (v : Int) = Lib.decDigits v := by
 unfold Lib.itoa; rw [if_neg (by omega)]; simp
end Go.Proofs.YtkdpcgmnkifbbaaGreatDoor
