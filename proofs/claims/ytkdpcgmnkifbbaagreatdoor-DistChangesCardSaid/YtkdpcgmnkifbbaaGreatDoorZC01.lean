/- Joined by a program of this session out of its texts, with only what the last theorem needs: Num. No conditions but those stated. -/
set_option linter.unusedVariables false
set_option linter.unusedSimpArgs false
namespace Go.Proofs.YtkdpcgmnkifbbaaGreatDoor
def BB : Nat := 1000000000
theorem BB_eq : BB = 1000000000 := rfl
theorem BB_pos (i : Nat) : 0 < BB ^ i := Nat.pow_pos (by decide)
def wd (m i : Nat) : Nat := m / BB ^ i % BB
theorem wd_lt (m i : Nat) : wd m i < 1000000000 := Nat.mod_lt _ (by decide)
def nw (m : Nat) : Nat := if h : m = 0 then 0 else nw (m / BB) + 1
termination_by m
decreasing_by exact Nat.div_lt_self (Nat.pos_of_ne_zero h) (by decide)
theorem nw_zero : nw 0 = 0 := by rw [nw]; simp
theorem nw_succ {m : Nat} (h : m ≠ 0) : nw m = nw (m / BB) + 1 := by rw [nw]; simp [h]
theorem lt_nw (m : Nat) : m < BB ^ nw m := by
 induction m using Nat.strongRecOn with
 | _ m ih =>
  by_cases h : m = 0
  ·subst h; rw [nw_zero]; decide
  ·rw [nw_succ h, Nat.pow_succ]
   have := ih (m / BB) (Nat.div_lt_self (Nat.pos_of_ne_zero h) (by decide))
   exact (Nat.div_lt_iff_lt_mul (by decide)).1 this
theorem nw_le {m i : Nat} (h : m < BB ^ i) : nw m ≤ i := by
 induction i generalizing m with
 | zero => have : m = 0 := by simpa using h
           subst this; rw [nw_zero]; exact Nat.le_refl _
 | succ i ih =>
  by_cases h0 : m = 0
  ·subst h0; rw [nw_zero]; omega
  ·rw [nw_succ h0]
   have := ih (m := m / BB) ((Nat.div_lt_iff_lt_mul (by decide)).2 (by rwa [← Nat.pow_succ]))
   omega
theorem nw_mono {m k : Nat} (h : m ≤ k) : nw m ≤ nw k := nw_le (Nat.lt_of_le_of_lt h (lt_nw k))
theorem wd_zero_of_ge {m i : Nat} (h : nw m ≤ i) : wd m i = 0 := by
 unfold wd
 have : m < BB ^ i := Nat.lt_of_lt_of_le (lt_nw m) (Nat.pow_le_pow_right (by decide) h)
 rw [Nat.div_eq_of_lt this]; rfl
theorem wd_top {m : Nat} (h : 0 < nw m) : wd m (nw m - 1) ≠ 0 := by
 obtain ⟨i, hi⟩ : ∃ i, nw m = i + 1 := ⟨nw m - 1, by omega⟩
 have h1 : ¬ m < BB ^ i := fun h1 => by have := nw_le h1; omega
 have h2 := lt_nw m
 rw [hi] at h2 ⊢
 simp only [Nat.add_sub_cancel]
 unfold wd
 have h3 : m / BB ^ i < BB := (Nat.div_lt_iff_lt_mul (BB_pos i)).2 (by rwa [Nat.mul_comm, ← Nat.pow_succ])
 rw [Nat.mod_eq_of_lt h3]
 have := Nat.div_pos (Nat.le_of_not_lt h1) (BB_pos i)
 omega
theorem wd_div (m i j : Nat) : wd (m / BB ^ i) j = wd m (i + j) := by
 unfold wd; rw [Nat.div_div_eq_div_mul, Nat.pow_add]
theorem div_wd (m i : Nat) : m / BB ^ i = BB * (m / BB ^ (i + 1)) + wd m i := by
 unfold wd; rw [Nat.pow_succ, ← Nat.div_div_eq_div_mul]; exact (Nat.div_add_mod _ _).symm
theorem mod_wd (m i : Nat) : m % BB ^ (i + 1) = BB ^ i * wd m i + m % BB ^ i := by
 unfold wd
 rw [Nat.pow_succ, Nat.mod_mul]; omega
theorem wd_of_div {m k i j : Nat} (h : m / BB ^ i = k / BB ^ i) (hj : i ≤ j) : wd m j = wd k j := by
 obtain ⟨d, rfl⟩ := Nat.exists_eq_add_of_le hj
 rw [← wd_div, ← wd_div, h]
theorem wd_of_mod {m k i j : Nat} (h : m % BB ^ i = k % BB ^ i) (hj : j < i) : wd m j = wd k j := by
 obtain ⟨d, rfl⟩ := Nat.exists_eq_add_of_lt hj
 unfold wd
 have e : ∀ x : Nat, x / BB ^ j % BB = x % BB ^ (j + d + 1) / BB ^ j % BB := fun x => by
  rw [show j + d + 1 = j + (1 + d) by omega, Nat.pow_add, Nat.mod_mul_right_div_self, Nat.pow_add, Nat.pow_one, Nat.mod_mul_right_mod]
 rw [e m, e k, h]
theorem eq_of_wd {m k n : Nat} (hm : m < BB ^ n) (hk : k < BB ^ n) (h : ∀ i, i < n → wd m i = wd k i) : m = k := by
 have : ∀ i, i ≤ n → m % BB ^ i = k % BB ^ i := by
  intro i
  induction i with
  | zero => intro _; simp [Nat.mod_one]
  | succ i ih => intro hi; rw [mod_wd, mod_wd, ih (by omega), h i (by omega)]
 have := this n (Nat.le_refl _)
 rwa [Nat.mod_eq_of_lt hm, Nat.mod_eq_of_lt hk] at this
def rst (a k : Nat) (f : Int) (i : Nat) : Int := ((a % BB ^ i : Nat) + f * (k % BB ^ i : Nat)) / (BB ^ i : Nat)
theorem rst_zero (a k : Nat) (f : Int) : rst a k f 0 = 0 := by simp [rst, Nat.mod_one]
theorem rst_succ (a k : Nat) (f : Int) (i : Nat) : rst a k f (i + 1) = ((wd a i : Int) + rst a k f i + f * (wd k i : Int)) / 1000000000 := by
 unfold rst
 rw [mod_wd, mod_wd, Nat.pow_succ]
 have hp : (BB ^ i : Nat) ≠ 0 := Nat.pos_iff_ne_zero.1 (BB_pos i)
 generalize BB ^ i = p at *
 generalize a % p = x
 generalize k % p = y
 generalize wd a i = u
 generalize wd k i = v
 have hpp : (0 : Int) < (p : Int) := by omega
 have e : ((p * u + x : Nat) : Int) + f * ((p * v + y : Nat) : Int) = (x + f * y) + p * (u + f * v) := by
  push_cast
  simp only [Int.mul_add, Int.mul_left_comm f]
  omega
 rw [e]
 have h1 : ((x : Int) + f * y + p * (u + f * v)) / p = (x + f * y) / p + (u + f * v) := Int.add_mul_ediv_left _ _ (by omega)
 rw [show ((p * BB : Nat) : Int) = (p : Int) * 1000000000 by rw [BB_eq]; omega, ← Int.ediv_ediv_of_nonneg (by omega), h1]
 congr 1
 omega
theorem rst_bounds (a k : Nat) (f : Int) (i : Nat) (h1 : -1000000000 < f) (h2 : f < 1000000000) : -1000000000 ≤ rst a k f i ∧ rst a k f i ≤ 1000000000 := by
 unfold rst
 have hp := BB_pos i
 have hx := Nat.mod_lt a hp
 have hy := Nat.mod_lt k hp
 generalize BB ^ i = p at *
 generalize a % p = x at *
 generalize k % p = y at *
 have hpp : (0 : Int) < (p : Int) := by omega
 have hyp : (y : Int) ≤ p := by omega
 have hl : -1000000000 * (p : Int) ≤ f * y := by
  rcases Int.le_total 0 f with h | h
  ·have := Int.mul_nonneg h (show (0 : Int) ≤ y by omega); omega
  ·have a1 : -1000000000 * (y : Int) ≤ f * y := Int.mul_le_mul_of_nonneg_right (by omega) (by omega)
   omega
 have hu : f * y ≤ 999999999 * (p : Int) := by
  rcases Int.le_total 0 f with h | h
  ·have a1 : f * (y : Int) ≤ 999999999 * y := Int.mul_le_mul_of_nonneg_right (by omega) (by omega)
   omega
  ·have := Int.mul_nonpos_of_nonpos_of_nonneg h (show (0 : Int) ≤ y by omega); omega
 constructor
 ·exact (Int.le_ediv_iff_mul_le hpp).2 (by omega)
 ·have : ((x : Int) + f * y) / p < 1000000001 := (Int.ediv_lt_iff_lt_mul hpp).2 (by omega)
  omega
theorem rst_word (a k A : Nat) (f : Int) (i : Nat) (hA : (A : Int) = a + f * k) : ((wd a i : Int) + rst a k f i + f * (wd k i : Int)) % 1000000000 = (wd A i : Int) := by
 have e : ((A / BB ^ i : Nat) : Int) = (a / BB ^ i : Nat) + f * (k / BB ^ i : Nat) + rst a k f i := by
  unfold rst
  rw [Int.natCast_ediv, hA]
  have hp := BB_pos i
  have ha := Nat.div_add_mod a (BB ^ i)
  have hk := Nat.div_add_mod k (BB ^ i)
  generalize BB ^ i = p at *
  generalize a % p = x at *
  generalize k % p = y at *
  generalize a / p = u at *
  generalize k / p = v at *
  have hpp : (p : Int) ≠ 0 := by omega
  subst ha; subst hk
  rw [show ((p * u + x : Nat) : Int) + f * ((p * v + y : Nat) : Int) = (x + f * y) + p * (u + f * v) by push_cast; simp only [Int.mul_add, Int.mul_left_comm f]; omega, Int.add_mul_ediv_left _ _ hpp]
  omega
 have h1 := div_wd a i
 have h2 := div_wd k i
 have h3 : (wd A i : Int) = ((A / BB ^ i : Nat) : Int) % 1000000000 := by
  unfold wd; rw [BB_eq]; omega
 rw [h3, e, h1, h2]
 generalize rst a k f i = r
 generalize a / BB ^ (i + 1) = a2
 generalize k / BB ^ (i + 1) = k2
 generalize wd a i = u
 generalize wd k i = v
 have e1 : ((BB * a2 + u : Nat) : Int) = 1000000000 * (a2 : Int) + u := by rw [BB_eq]; omega
 have e2 : ((BB * k2 + v : Nat) : Int) = 1000000000 * (k2 : Int) + v := by rw [BB_eq]; omega
 rw [e1, e2, Int.mul_add, Int.mul_left_comm]
 generalize f * (k2 : Int) = y
 generalize f * (v : Int) = z
 omega
end Go.Proofs.YtkdpcgmnkifbbaaGreatDoor
