/- Joined by a program of this session out of its texts, with only what the last theorem needs: Rh Rj Rk Rl Rn. No conditions but those stated. -/
import Derived.Test.YtkdpcgmnkifbbaaGreatDoorZC27
import Derived.Test.YtkdpcgmnkifbbaaGreatDoorZC21
import Derived.Test.YtkdpcgmnkifbbaaGreatDoorZC26
set_option linter.unusedVariables false
set_option linter.unusedSimpArgs false
namespace Go.Proofs.YtkdpcgmnkifbbaaGreatDoorW.PrintMore
end Go.Proofs.YtkdpcgmnkifbbaaGreatDoorW.PrintMore
namespace Go.Proofs.YtkdpcgmnkifbbaaGreatDoorW.PrintWords
end Go.Proofs.YtkdpcgmnkifbbaaGreatDoorW.PrintWords
section
namespace Go.Proofs.YtkdpcgmnkifbbaaGreatDoor
open Go.RowKit Go.Proofs.YtkdpcgmnkifbbaaGreatDoorW.PrintWords Go.Proofs.YtkdpcgmnkifbbaaGreatDoorW.PrintMore
def cval (l : List Int) : Int := l.foldl (fun m c => 10 * m + c) 0
theorem cval_snoc (l : List Int) (c : Int) : cval (l ++ [c]) = 10 * cval l + c := by simp [cval]
theorem revIndI {P : List Int → Prop} (nil : P []) (append : ∀ l c, P l → P (l ++ [c])) (l : List Int) : P l := by
 have h : ∀ l : List Int, P l.reverse := by
  intro l
  induction l with
  | nil => exact nil
  | cons c t ih => rw [List.reverse_cons]; exact append _ _ ih
 have := h l.reverse
 rwa [List.reverse_reverse] at this
theorem cval_app (l m : List Int) : cval (l ++ m) = cval l * 10 ^ m.length + cval m := by
 induction m using revIndI with
 | nil => simp [cval]
 | append t c ih =>
  rw [← List.append_assoc, cval_snoc, cval_snoc, ih, List.length_append, List.length_singleton, Int.pow_succ, ← Int.mul_assoc]
  omega
theorem cval_set (l : List Int) (j : Nat) (v : Int) (h : j < l.length) : cval (l.set j v) = cval l + (v - l.getD j 0) * 10 ^ (l.length - 1 - j) := by
 have e1 : l = l.take j ++ (l[j] :: l.drop (j + 1)) := by rw [← List.drop_eq_getElem_cons h, List.take_append_drop]
 have e2 : l.set j v = l.take j ++ (v :: l.drop (j + 1)) := by
  conv => lhs; rw [e1]
  rw [List.set_append_right _ _ (by rw [List.length_take]; omega), List.length_take]
  rw [show j - min j l.length = 0 by omega]; rfl
 have e3 : ∀ c : Int, cval (c :: l.drop (j + 1)) = c * 10 ^ (l.length - 1 - j) + cval (l.drop (j + 1)) := by
  intro c
  have := cval_app [c] (l.drop (j + 1))
  rw [List.singleton_append] at this
  rw [this, List.length_drop, show l.length - (j + 1) = l.length - 1 - j by omega]
  simp [cval]
 rw [e2, cval_app, e3]
 have e4 : cval l = cval (l.take j) * 10 ^ (l.drop j).length + cval (l.drop j) := by
  rw [← cval_app, List.take_append_drop]
 rw [e4, List.drop_eq_getElem_cons h, e3, List.getD, List.getElem?_eq_getElem h, Option.getD_some]
 simp only [List.length_cons]
 rw [Int.sub_mul]; omega
theorem cval_zero (n : Nat) : cval (List.replicate n 0) = 0 := by
 induction n with
 | zero => rfl
 | succ n ih => rw [List.replicate_succ', cval_snoc, ih]; rfl
theorem carry_step {a c v q r p o V : Int} (hinv : (10 * a + v + c) * p + o = V) (hdm : 10 * q + r = c + v) : (a + q) * (p * 10) + (r * p + o) = V := by
 have h : 10 * a + v + c = 10 * (a + q) + r := by omega
 rw [h, Int.add_mul] at hinv
 rw [show (a + q) * (p * 10) = 10 * (a + q) * p by rw [Int.mul_comm p 10, ← Int.mul_assoc, Int.mul_comm (a + q) 10]]
 rw [← Int.add_assoc]; exact hinv
theorem tmod_ten (t : Nat) : Int.tmod (t : Int) 10 = ((t % 10 : Nat) : Int) := rfl
theorem tdiv_ten (t : Nat) : Int.tdiv (t : Int) 10 = ((t / 10 : Nat) : Int) := rfl
theorem div_ten_le {t : Nat} (h : t ≤ 20000000000000) : t / 10 ≤ 20000000000000 := Nat.le_trans (Nat.div_le_self _ _) h
theorem set_digit (pre' : List Int) (x : Int) (O : List UInt8) (j d : Nat) (hp' : pre'.length = j) (hd : d < 10) : (pre' ++ [x] ++ numsOf O).set j ((48 + d : Nat) : Int) = pre' ++ numsOf (UInt8.ofNat (48 + d) :: O) := by
 rw [List.append_assoc, List.set_append_right _ _ (Nat.le_of_eq hp'), hp', Nat.sub_self]
 have e9 := dig_of d hd
 unfold numsOf
 rw [List.map_cons, e9]; rfl
theorem byte_digit {d : Nat} (hd : d < 10) : (wrap64 (48 + (d : Int))) % 256 = ((48 + d : Nat) : Int) := by
 rw [IntWalk.wrap64_in _ (by omega)]; omega
theorem l2_round (cols : List Int) (n j t c v : Nat) (pre' : List Int) (x : Int) (O : List UInt8) (k : Nat) (hcn : cols.length = n) (hj : j < n) (hn1 : n ≤ 1000000) (hp' : pre'.length = j) (hO : O.length = n - (j + 1)) (ht20 : t ≤ 20000000000000) (ht : (c : Int) + v = t) (hrd : rd cols j = v) :
  R.metrolabref01_product.l2 (k + 1) cols (pre' ++ [x] ++ numsOf O) c (((j + 1 : Nat) : Int) - 1) = R.metrolabref01_product.l2 k cols (pre' ++ numsOf (UInt8.ofNat (48 + t % 10) :: O)) ((t / 10 : Nat) : Int) ((j : Int) - 1) := by
 have ej : ((j + 1 : Nat) : Int) - 1 = j := by omega
 have hol : ((pre' ++ [x] ++ numsOf O).length : Int) = n := by
  unfold numsOf
  rw [List.length_append, List.length_append, List.length_map, hp', hO, List.length_singleton]
  omega
 have hd : t % 10 < 10 := Nat.mod_lt _ (by decide)
 have hq := div_ten_le ht20
 have e5 : wrap64 ((t : Nat) : Int) = ((t : Nat) : Int) := IntWalk.wrap64_in _ (by omega)
 have e9 : wrap64 ((t / 10 : Nat) : Int) = ((t / 10 : Nat) : Int) := by
  generalize t / 10 = q at hq ⊢
  exact IntWalk.wrap64_in _ (by omega)
 have e10 : wrap64 ((j : Int) - 1) = (j : Int) - 1 := IntWalk.wrap64_in _ (by omega)
 have c1 : (j : Int) ≥ 0 := by omega
 have c2 : (0 : Int) ≤ j := c1
 have c3 : (j : Int) < (cols.length : Int) := by omega
 have c4 : (j : Int) < ((pre' ++ [x] ++ numsOf O).length : Int) := by omega
 rw [ej, R.metrolabref01_product.l2, if_pos c1, if_pos c2, if_pos c3, if_pos c4, hrd, ht, e5, tmod_ten, tdiv_ten, e9, e10, byte_digit hd, Int.toNat_natCast, set_digit pre' x O j _ hp' hd]
theorem product_l2 (cols : List Int) (n V M : Nat) (hn : cols.length = n) (hn0 : 0 < n) (hn1 : n ≤ 1000000) (hM : M ≤ 10000000000000) (hc : ∀ v ∈ cols, 0 ≤ v ∧ v ≤ M) (hV : cval cols = V) (hVn : V < 10 ^ n)
  (j : Nat) (hj : j ≤ n) (c : Nat) (hcM : c ≤ M) (pre : List Int) (O : List UInt8) (hp : pre.length = j) (hO : O.length = n - j) (dO : O.all isDig = true)
  (hinv : (cval (cols.take j) + c) * 10 ^ (n - j) + dnat O = V) :
  Runs (fun k => R.metrolabref01_product.l2 k cols (pre ++ numsOf O) c ((j : Int) - 1)) (dtx V) := by
 induction j generalizing c pre O with
 | zero =>
  have hpre : pre = [] := List.eq_nil_of_length_eq_zero hp
  subst hpre
  have hlt := dnat_lt dO
  rw [hO, Nat.sub_zero] at hlt
  rw [Nat.sub_zero, List.take_zero, show cval [] = 0 from rfl, Int.zero_add] at hinv
  have hVO : dnat O = V := by
   have hpw : ((10 : Int) ^ n) = ((10 ^ n : Nat) : Int) := by push_cast; rfl
   rw [hpw] at hinv
   have h2 : c * 10 ^ n + dnat O = V := by exact_mod_cast hinv
   rcases Nat.eq_zero_or_pos c with h | h
   ·subst h; omega
   ·have : 1 * 10 ^ n ≤ c * 10 ^ n := Nat.mul_le_mul_right _ h
    omega
  have hb := bare_f O dO (by intro h; rw [h] at hO; simp at hO; omega)
  rw [hVO] at hb
  have hb2 : Runs (fun k => (R.metrolabref01_bare.f k (strOfNums ([] ++ numsOf O))).bind fun t127 => (some t127)) (dtx V) := by
   rw [List.nil_append, str_nums]; exact Runs.bind hb (Runs.pure _)
  refine Runs.succ hb2 fun k => ?_
  rw [R.metrolabref01_product.l2, if_neg (by omega)]
 | succ j ih =>
  have hjl : j < cols.length := by omega
  obtain ⟨pre', x, rfl⟩ : ∃ pre' x, pre = pre' ++ [x] := by
   refine ⟨pre.dropLast, pre.getLast (by intro h; rw [h] at hp; simp at hp), (List.dropLast_concat_getLast _).symm⟩
  have hp' : pre'.length = j := by simp at hp; exact hp
  have hv := hc _ (List.getElem_mem hjl)
  obtain ⟨v, hvn⟩ : ∃ v : Nat, cols[j] = v := ⟨cols[j].toNat, by omega⟩
  rw [hvn] at hv
  have hrd : rd cols (j : Int) = v := by unfold rd; simp [List.getD, List.getElem?_eq_getElem hjl, hvn]
  have htk : cval (cols.take (j + 1)) = 10 * cval (cols.take j) + v := by
   rw [← List.take_append_getElem hjl, cval_snoc, hvn]
  have hnj : n - j = (n - (j + 1)) + 1 := by omega
  have hdl : (c + v) % 10 < 10 := Nat.mod_lt _ (by decide)
  have hnext := ih (by omega) ((c + v) / 10) (by omega) pre' (UInt8.ofNat (48 + (c + v) % 10) :: O) hp' (by rw [List.length_cons, hO]; omega) (by rw [List.all_cons, isDig_of _ hdl, dO]; rfl) (by
   rw [dnat_digit _ hdl, hO, hnj, Int.pow_succ]
   rw [htk] at hinv
   have hdm := Nat.div_add_mod (c + v) 10
   have hdm2 : 10 * (((c + v) / 10 : Nat) : Int) + (((c + v) % 10 : Nat) : Int) = c + v := by exact_mod_cast hdm
   have h3 := carry_step hinv hdm2
   rw [Int.natCast_add, Int.natCast_mul, Int.natCast_pow]
   exact h3)
  exact Runs.succ hnext fun k => l2_round cols n j (c + v) c v pre' x O k hn (by omega) hn1 hp' hO (by omega) (by push_cast; rfl) hrd
end Go.Proofs.YtkdpcgmnkifbbaaGreatDoor
end
section
namespace Go.Proofs.YtkdpcgmnkifbbaaGreatDoor
open Go.RowKit Go.Proofs.YtkdpcgmnkifbbaaGreatDoorW.PrintWords Go.Proofs.YtkdpcgmnkifbbaaGreatDoorW.PrintMore
structure Cols (cols : List Int) (n m V : Nat) : Prop where
 len : cols.length = n
 bound : ∀ v ∈ cols, 0 ≤ v ∧ v ≤ ((81 * m : Nat) : Int)
 val : cval cols = V
theorem Cols.step {cols : List Int} {n m V : Nat} (h : Cols cols n m V) {j a b : Nat} (hj : j < n) (ha : a < 10) (hb : b < 10) : Cols (cols.set j (rd cols j + ((a * b : Nat) : Int))) n (m + 1) (V + a * b * 10 ^ (n - 1 - j)) := by
 have hjl : j < cols.length := by rw [h.len]; exact hj
 have hr : rd cols (j : Int) = cols[j] := by unfold rd; simp [List.getD, List.getElem?_eq_getElem hjl]
 have hv := h.bound _ (List.getElem_mem hjl)
 have hab : a * b ≤ 9 * 9 := Nat.mul_le_mul (by omega) (by omega)
 refine ⟨by rw [List.length_set, h.len], fun v hv2 => ?_, ?_⟩
 ·rcases List.mem_or_eq_of_mem_set hv2 with h2 | h2
  ·have := h.bound v h2; omega
  ·rw [h2, hr]; generalize a * b = ab at *; omega
 ·rw [cval_set _ _ _ hjl, h.val, h.len, hr, List.getD, List.getElem?_eq_getElem hjl, Option.getD_some]
  rw [show cols[j] + ((a * b : Nat) : Int) - cols[j] = ((a * b : Nat) : Int) from by generalize a * b = ab; clear hab hv hr h; omega]
  generalize a * b = ab
  rw [Int.natCast_add, Int.natCast_mul, Int.natCast_pow, show ((10 : Nat) : Int) = 10 from rfl]
theorem Cols.val' {cols : List Int} {n m V V' : Nat} (h : Cols cols n m V) (e : V = V') : Cols cols n m V' := e ▸ h
def pval (A B : List UInt8) (i k : Nat) (a : Nat) : Nat := dnat (A.take i) * 10 ^ (A.length - i) * dnat B + a * 10 ^ (A.length - 1 - i) * (dnat (B.take k) * 10 ^ (B.length - k))
theorem pval_step {A B : List UInt8} {i k a b : Nat} (hi : i < A.length) (hk : k < B.length) (hb : (B.getD k 0).toNat - 48 = b) : pval A B i (k + 1) a = pval A B i k a + a * b * 10 ^ (A.length + B.length - 1 - (i + k + 1)) := by
 unfold pval
 rw [dnat_take_succ B k hk, hb, show B.length - k = (B.length - (k + 1)) + 1 by omega, Nat.pow_succ, show A.length + B.length - 1 - (i + k + 1) = (A.length - 1 - i) + (B.length - (k + 1)) by omega, Nat.pow_add]
 generalize 10 ^ (A.length - 1 - i) = P
 generalize 10 ^ (B.length - (k + 1)) = Q
 grind
theorem pval_end {A B : List UInt8} {i a : Nat} (hi : i < A.length) (ha : (A.getD i 0).toNat - 48 = a) : pval A B i B.length a = dnat (A.take (i + 1)) * 10 ^ (A.length - (i + 1)) * dnat B := by
 unfold pval
 rw [dnat_take_succ A i hi, ha, List.take_length, Nat.sub_self, Nat.pow_zero, show A.length - i = (A.length - (i + 1)) + 1 by omega, Nat.pow_succ, show A.length - 1 - i = A.length - (i + 1) by omega]
 generalize 10 ^ (A.length - (i + 1)) = P
 grind
theorem pval_zero {A B : List UInt8} {i a : Nat} : pval A B i 0 a = dnat (A.take i) * 10 ^ (A.length - i) * dnat B := by
 unfold pval; rw [List.take_zero]; simp [dnat]
theorem digit_at {D : List UInt8} (h : D.all isDig = true) {j : Nat} (hj : j < D.length) : ∃ a, a < 10 ∧ bt (bas D) j = ((48 + a : Nat) : Int) ∧ (D.getD j 0).toNat - 48 = a := by
 have hd : isDig (D[j]) = true := by
  rw [List.all_eq_true] at h; exact h _ (List.getElem_mem hj)
 obtain ⟨a, ha, hc, hv⟩ := isDig_val hd
 refine ⟨a, ha, ?_, ?_⟩
 ·rw [bt_nat _ _ (by rw [bas_size]; exact hj), bas_list, List.getD, List.getElem?_eq_getElem hj, Option.getD_some, hc, dig_of a ha]
 ·rw [List.getD, List.getElem?_eq_getElem hj, Option.getD_some]; exact hv
theorem wrap_sum {x y : Int} {m : Nat} (h0 : 0 ≤ x) (h1 : x ≤ ((81 * m : Nat) : Int)) (hm : m ≤ 10000000000) (h2 : 0 ≤ y) (h3 : y ≤ 81) : wrap64 (x + y) = x + y := IntWalk.wrap64_in _ (by omega)
theorem wrap_idx {i k : Nat} (hi : i ≤ 100000) (hk : k ≤ 100000) : wrap64 ((wrap64 ((i : Int) + k)) + 1) = ((i + k + 1 : Nat) : Int) := by
 rw [IntWalk.wrap64_in ((i : Int) + k) (by omega), IntWalk.wrap64_in _ (by omega)]; omega
theorem wrap_succ {k : Nat} (hk : k ≤ 100000) : wrap64 ((k : Int) + 1) = ((k + 1 : Nat) : Int) := by rw [IntWalk.wrap64_in _ (by omega)]; omega
theorem dig_back {a : Nat} (h : a < 10) : (((48 + a : Nat) : Int) - 48) % 256 = a := by omega
theorem wrap_small {x : Nat} (h : x ≤ 81) : wrap64 (x : Int) = x := IntWalk.wrap64_in _ (by omega)
theorem l1_round (A B : List UInt8) (cols : List Int) (n m V i k a b : Nat) (hA : A.length ≤ 100000) (hB : B.length ≤ 100000) (hn : n = A.length + B.length) (hi : i < A.length) (hk : k < B.length) (ha : a < 10) (hb : b < 10) (ea : bt (bas A) i = ((48 + a : Nat) : Int)) (eb : bt (bas B) k = ((48 + b : Nat) : Int)) (hc : Cols cols n m V) (hm : m ≤ 10000000000) (r : Nat) :
  R.metrolabref01_product.l1 (r + 1) (bas A) (bas B) cols i k = R.metrolabref01_product.l1 r (bas A) (bas B) (cols.set (i + k + 1) (rd cols ((i + k + 1 : Nat) : Int) + ((a * b : Nat) : Int))) i ((k + 1 : Nat) : Int) := by
 have hlen := hc.len
 have hjl : i + k + 1 < cols.length := by omega
 have hr : rd cols ((i + k + 1 : Nat) : Int) = cols[i + k + 1] := by unfold rd; rw [Int.toNat_natCast]; simp [List.getD, List.getElem?_eq_getElem hjl]
 have hv := hc.bound _ (List.getElem_mem hjl)
 rw [← hr] at hv
 have hab : a * b ≤ 9 * 9 := Nat.mul_le_mul (by omega) (by omega)
 have c1 : (k : Int) < (B.length : Int) := by omega
 have c2 : (0 : Int) ≤ ((i + k + 1 : Nat) : Int) := by omega
 have c3 : ((i + k + 1 : Nat) : Int) < (cols.length : Int) := by omega
 have c4 : (0 : Int) ≤ (i : Int) := by omega
 have c5 : (i : Int) < (A.length : Int) := by omega
 have c6 : (0 : Int) ≤ (k : Int) := by omega
 have e4 : (a : Int) * b = ((a * b : Nat) : Int) := (Int.natCast_mul a b).symm
 have e5 := wrap_sum (y := ((a * b : Nat) : Int)) hv.1 hv.2 hm (Int.natCast_nonneg _) (Int.ofNat_le.2 hab)
 rw [R.metrolabref01_product.l1, bas_size, bas_size, if_pos c1, wrap_idx (by omega) (by omega), if_pos c2, if_pos c3, if_pos c4, if_pos c5, if_pos c6, ea, eb, dig_back ha, dig_back hb, e4, wrap_small hab, e5, wrap_succ (by omega), Int.toNat_natCast]
theorem product_l1 (A B : List UInt8) (res : ByteArray) (n i a : Nat) (hA : A.length ≤ 100000) (hB : B.length ≤ 100000) (hn : n = A.length + B.length) (dB : B.all isDig = true) (hi : i < A.length) (ha : a < 10) (ea : bt (bas A) i = ((48 + a : Nat) : Int)) (ea2 : (A.getD i 0).toNat - 48 = a)
  (hnext : ∀ cols, Cols cols n ((i + 1) * B.length) (dnat (A.take (i + 1)) * 10 ^ (A.length - (i + 1)) * dnat B) → Runs (fun k => R.metrolabref01_product.l0 k (bas A) (bas B) cols ((i + 1 : Nat) : Int)) res)
  (d k : Nat) (hd : k + d = B.length) (cols : List Int) (hc : Cols cols n (i * B.length + k) (pval A B i k a)) :
  Runs (fun r => R.metrolabref01_product.l1 r (bas A) (bas B) cols i k) res := by
 have hib : i * B.length ≤ 100000 * 100000 := Nat.mul_le_mul (by omega) hB
 induction d generalizing k cols with
 | zero =>
  have hk : k = B.length := by omega
  subst hk
  rw [pval_end hi ea2] at hc
  rw [show i * B.length + B.length = (i + 1) * B.length by rw [Nat.succ_mul]] at hc
  refine Runs.succ (hnext cols hc) fun r => ?_
  have e6 : wrap64 ((i : Int) + 1) = ((i + 1 : Nat) : Int) := by rw [IntWalk.wrap64_in _ (by omega)]; omega
  rw [R.metrolabref01_product.l1, bas_size, bas_size, if_neg (by omega), e6]
 | succ d ih =>
  have hk : k < B.length := by omega
  obtain ⟨b, hb, eb, eb2⟩ := digit_at dB hk
  have hs := (hc.step (j := i + k + 1) (a := a) (b := b) (by omega) ha hb).val' (show _ = pval A B i (k + 1) a by rw [hn]; exact (pval_step hi hk eb2).symm)
  have hib2 : (i + 1) * B.length ≤ 100000 * 100000 := Nat.mul_le_mul (by omega) hB
  rw [Nat.succ_mul] at hib2
  refine Runs.succ (ih (k + 1) (by omega) _ hs) fun r => ?_
  exact l1_round A B cols n _ _ i k a b hA hB hn hi hk ha hb ea eb hc (by omega) r
theorem product_l0 (A B : List UInt8) (n : Nat) (hA : A.length ≤ 100000) (hB : B.length ≤ 100000) (hn : n = A.length + B.length) (h0 : 0 < n) (dA : A.all isDig = true) (dB : B.all isDig = true)
  (d i : Nat) (hd : i + d = A.length) (cols : List Int) (hc : Cols cols n (i * B.length) (dnat (A.take i) * 10 ^ (A.length - i) * dnat B)) :
  Runs (fun r => R.metrolabref01_product.l0 r (bas A) (bas B) cols i) (dtx (dnat A * dnat B)) := by
 induction d generalizing i cols with
 | zero =>
  have hi : i = A.length := by omega
  subst hi
  rw [List.take_length, Nat.sub_self, Nat.pow_zero, Nat.mul_one] at hc
  have hm : A.length * B.length ≤ 100000 * 100000 := Nat.mul_le_mul hA hB
  have hlt : dnat A * dnat B < 10 ^ n := by
   rw [hn, Nat.pow_add]
   exact Nat.mul_lt_mul_of_lt_of_le (dnat_lt dA) (Nat.le_of_lt (dnat_lt dB)) (Nat.pow_pos (by decide))
  have hl := product_l2 cols n (dnat A * dnat B) (81 * (A.length * B.length)) hc.len h0 (by omega) (by omega) hc.bound hc.val hlt n (Nat.le_refl _) 0 (by omega) (List.replicate n 0) [] (by simp) (by simp) rfl
   (by rw [← hc.len, List.take_length, hc.val, Nat.sub_self]; simp [dnat])
  refine Runs.succ hl fun r => ?_
  rw [R.metrolabref01_product.l0, bas_size, if_neg (by omega), hc.len, if_pos (by omega), if_pos (by omega), IntWalk.wrap64_in _ (by omega), Int.toNat_natCast]
  simp [numsOf]
 | succ d ih =>
  have hi : i < A.length := by omega
  obtain ⟨a, ha, ea, ea2⟩ := digit_at dA hi
  have hl := product_l1 A B (dtx (dnat A * dnat B)) n i a hA hB hn dB hi ha ea ea2 (fun cols' hc' => ih (i + 1) (by omega) cols' hc') B.length 0 (by omega) cols (hc.val' pval_zero.symm)
  refine Runs.succ hl fun r => ?_
  rw [R.metrolabref01_product.l0, bas_size, if_pos (by omega)]; rfl
theorem product_f (x y : Nat) (hx : (dtx x).size ≤ 100000) (hy : (dtx y).size ≤ 100000) : Runs (fun k => R.metrolabref01_product.f k (dtx x) (dtx y)) (dtx (x * y)) := by
 have hx2 : (Lib.decDigits x).length ≤ 100000 := by rw [← dtx_size]; exact hx
 have hy2 : (Lib.decDigits y).length ≤ 100000 := by rw [← dtx_size]; exact hy
 have hp := dtx_pos x
 have hl := product_l0 (Lib.decDigits x) (Lib.decDigits y) ((dtx x).size + (dtx y).size) hx2 hy2 (by rw [dtx_size, dtx_size]) (by omega) (dd_all x) (dd_all y) (Lib.decDigits x).length 0 (by omega) (List.replicate ((dtx x).size + (dtx y).size) 0)
  ⟨by simp, fun v hv => by rw [(List.mem_replicate.1 hv).2]; omega, by rw [cval_zero, List.take_zero]; simp [dnat]⟩
 rw [dnat_dd, dnat_dd] at hl
 refine Runs.congr hl fun k => ?_
 have e1 : wrap64 (((dtx x).size : Int) + ((dtx y).size : Int)) = (((dtx x).size + (dtx y).size : Nat) : Int) := by rw [IntWalk.wrap64_in _ (by omega)]; omega
 unfold R.metrolabref01_product.f
 rw [e1, if_pos (by omega), if_pos (by omega), Int.toNat_natCast]; rfl
end Go.Proofs.YtkdpcgmnkifbbaaGreatDoor
end
section
namespace Go.Proofs.YtkdpcgmnkifbbaaGreatDoor
open Go.RowKit Go.Proofs.YtkdpcgmnkifbbaaGreatDoorW.PrintWords Go.Proofs.YtkdpcgmnkifbbaaGreatDoorW.PrintMore
theorem dtx_le_itx (u : Int) : (dtx u.natAbs).size ≤ (itx u).size := by
 rw [dtx_size, Lib.size_eq, ← itx_digs]; exact digs_len _
theorem lt_of_size {m n : Nat} (h : (dtx m).size ≤ n) : m < 10 ^ n := by
 have h0 := dtx_pos m
 obtain ⟨k, rfl⟩ : ∃ k, n = k + 1 := ⟨n - 1, by omega⟩
 rw [dtx_size] at h; exact (dd_le_iff m k).1 h
theorem size_of_lt {m n : Nat} (h : m < 10 ^ n) (h0 : 0 < n) : (dtx m).size ≤ n := by
 obtain ⟨k, rfl⟩ : ∃ k, n = k + 1 := ⟨n - 1, by omega⟩
 rw [dtx_size]; exact (dd_le_iff m k).2 h
theorem dtx_mul {x y a b : Nat} (hx : (dtx x).size ≤ a) (hy : (dtx y).size ≤ b) : (dtx (x * y)).size ≤ a + b := by
 have h1 := lt_of_size hx
 have h2 := lt_of_size hy
 refine size_of_lt ?_ (by have := dtx_pos x; omega)
 rw [Nat.pow_add]
 exact Nat.mul_lt_mul_of_lt_of_le h1 (Nat.le_of_lt h2) (Nat.pow_pos (by decide))
theorem itx_size_dtx (u : Int) : (itx u).size ≤ (dtx u.natAbs).size + 1 := by
 rw [dtx_size, Lib.size_eq, itx_list]
 unfold Lib.itoa
 split
 ·rw [List.length_cons]; exact Nat.le_refl _
 ·rename_i h; rw [show u.toNat = u.natAbs by omega]; exact Nat.le_succ _
theorem times_long (u v : Int) (x y : Int) (hu : (dtx u.natAbs).size ≤ 90000) (hv : (dtx v.natAbs).size ≤ 90000) : Runs (fun k => R.metrolabref01_Times.j0 k (itx u) (itx v) x y false) (itx (u * v)) := by
 have hb : Runs (fun k => (R.metrolabref01_product.f k (dtx u.natAbs) (dtx v.natAbs)).bind fun t165 => ((R.metrolabref01_signed.f t165 (decide (u < 0) != decide (v < 0))).bind fun t168 => (some t168))) (itx (u * v)) := by
  refine Runs.bind (product_f _ _ (by omega) (by omega)) ?_
  have hz := dtx_mul hu hv
  rw [signed_f _ _ (by omega), sg_mul, Option.bind_some]
  exact Runs.pure _
 refine Runs.succ hb fun k => ?_
 rw [R.metrolabref01_Times.j0, if_neg (by decide), size_itx, size_itx, below_itx, below_itx, Option.bind_some, Option.bind_some]
 congr 1
theorem ref_times (u v : Int) (hu : (dtx u.natAbs).size ≤ 90000) (hv : (dtx v.natAbs).size ≤ 90000) : Runs (fun k => R.metrolabref01_Times.f k (itx u) (itx v)) (itx (u * v)) := by
 unfold R.metrolabref01_Times.f
 refine Runs.bind (brief_f u v) ?_
 by_cases h : (dtx u.natAbs).size ≤ 18 ∧ (dtx v.natAbs).size ≤ 18
 ·rw [if_pos h]
  simp only [if_true]
  have hs1 := itx_size_dtx u
  have hs2 := itx_size_dtx v
  have e1 : wrap64 (((itx u).size : Int) + ((itx v).size : Int)) = (((itx u).size + (itx v).size : Nat) : Int) := by rw [IntWalk.wrap64_in _ (by omega)]; omega
  rw [e1]
  by_cases h18 : (itx u).size + (itx v).size ≤ 18
  ·rw [decide_eq_true (by omega)]
   have hm := dtx_mul (dtx_le_itx u) (dtx_le_itx v)
   have hlt : u.natAbs * v.natAbs < 10 ^ 18 := lt_of_size (by omega)
   have hlt2 : (u * v).natAbs < 10 ^ 18 := by rw [Int.natAbs_mul]; exact hlt
   refine Runs.succ (f := fun k => (R.metrolabref01_Of.f k (u * v)).bind fun t162 => (some t162)) (Runs.bind (ref_of (u * v) (by omega) (by omega)) (Runs.pure _)) fun k => ?_
   rw [R.metrolabref01_Times.j0, if_pos rfl, IntWalk.wrap64_in _ (by omega)]
  ·rw [decide_eq_false (by omega)]
   exact times_long u v u v hu hv
 ·rw [if_neg h]
  simp only [Bool.false_eq_true, if_false]
  exact times_long u v 0 0 hu hv
theorem divided_l1 (A : ByteArray) (Y : Nat) (Q : List UInt8) (i : Nat) (res : ByteArray × ByteArray) (hA : A.size ≤ 1000000) (hi : i ≤ 1000000) (hQ : Q.length ≤ 1000000) (x' : Nat) (hx : x' < Y) (t dg : Nat) (hdg : dg + t ≤ 9)
  (hsz : (dtx (Y * t + x')).size ≤ 100000) (hY : (dtx Y).size ≤ 100000)
  (hnext : Runs (fun k => R.metrolabref01_divided.l0 k A (dtx Y) (bas (Q ++ [UInt8.ofNat (48 + (dg + t))])) (dtx x') ((i + 1 : Nat) : Int)) res) :
  Runs (fun k => R.metrolabref01_divided.l1 k A (dtx Y) (bas Q) (dtx (Y * t + x')) i ((48 + dg : Nat) : Int)) res := by
 induction t generalizing dg with
 | zero =>
  rw [Nat.mul_zero, Nat.zero_add]
  rw [Nat.add_zero] at hnext
  refine Runs.succ hnext fun k => ?_
  have e1 : strOfNums [((48 + dg : Nat) : Int)] = bas [UInt8.ofNat (48 + dg)] := by
   have := str_nums [UInt8.ofNat (48 + dg)]
   unfold numsOf at this
   rw [List.map_cons, List.map_nil, dig_of dg (by omega)] at this
   exact this
  have e2 : bas Q ++ bas [UInt8.ofNat (48 + dg)] = bas (Q ++ [UInt8.ofNat (48 + dg)]) := by
   apply ByteArray.ext
   apply Array.toList_inj.1
   rw [ByteArray.data_append, Array.toList_append]; rfl
  rw [R.metrolabref01_divided.l1, less_f, Option.bind_some, decide_eq_true hx, if_pos rfl, Option.bind_some, e1, bas_size, bas_size, if_pos (by simp; omega), e2, IntWalk.wrap64_in _ (by omega)]
  rfl
 | succ t ih =>
  have hge : ¬ (Y * (t + 1) + x' < Y) := by rw [Nat.mul_succ]; omega
  have hp := paper_f (Y * (t + 1) + x') Y (Y * t + x') false hsz hY (by rw [Nat.mul_succ]; simp; omega)
  have hle := dtx_mono (show Y * t + x' ≤ Y * (t + 1) + x' by rw [Nat.mul_succ]; omega)
  have hn := ih (dg + 1) (by omega) (by omega) (by rw [show dg + 1 + t = dg + (t + 1) by omega]; exact hnext)
  refine Runs.succ (Runs.bind (f := fun k t177 => R.metrolabref01_divided.l1 k A (dtx Y) (bas Q) t177 i ((48 + (dg + 1) : Nat) : Int)) hp hn) fun k => ?_
  have e1 : (((48 + dg : Nat) : Int) + 1) % 256 = ((48 + (dg + 1) : Nat) : Int) := by omega
  rw [R.metrolabref01_divided.l1, less_f, Option.bind_some, decide_eq_false hge, if_neg (by decide), e1]
theorem dtx_snoc {r a n : Nat} (ha : a < 10) (hr : (dtx r).size ≤ n) : (dtx (10 * r + a)).size ≤ n + 1 := by
 have h := lt_of_size hr
 refine size_of_lt ?_ (by omega)
 rw [Nat.pow_succ]
 generalize 10 ^ n = p at *
 omega
theorem extract_one (D : List UInt8) (i : Nat) (h : i < D.length) : (bas D).extract i (i + 1) = bas [D.getD i 0] := by
 rw [Lib.extract_eq, bas_list, show i + 1 - i = 1 by omega]
 unfold bas
 congr 2
 rw [List.drop_eq_getElem_cons h, List.take_succ_cons, List.take_zero, List.getD, List.getElem?_eq_getElem h, Option.getD_some]
theorem div_step {X' Y D r a q m : Nat} (h : X' = Y * D + r) (h2 : Y * q + m = 10 * r + a) : 10 * X' + a = Y * (10 * D + q) + m := by
 subst h
 rw [Nat.mul_add Y, Nat.mul_left_comm Y 10 D]
 generalize Y * D = u at *
 generalize Y * q = v at *
 omega
theorem bas_app (l m : List UInt8) : bas l ++ bas m = bas (l ++ m) := by
 apply ByteArray.ext
 apply Array.toList_inj.1
 rw [ByteArray.data_append, Array.toList_append]; rfl
theorem getD_digit {D : List UInt8} (h : D.all isDig = true) {i a : Nat} (hi : i < D.length) (e : (D.getD i 0).toNat - 48 = a) : D.getD i 0 = UInt8.ofNat (48 + a) := by
 have hd2 : isDig (D.getD i 0) = true := by
  rw [List.all_eq_true] at h
  rw [List.getD, List.getElem?_eq_getElem hi]
  exact h _ (List.getElem_mem hi)
 obtain ⟨c, hc, e2, hv⟩ := isDig_val hd2
 rw [e2]; congr 2; omega
theorem bare_snoc (r a : Nat) (ha : a < 10) : Runs (fun k => R.metrolabref01_bare.f k (bas (Lib.decDigits r ++ [UInt8.ofNat (48 + a)]))) (dtx (10 * r + a)) := by
 have := bare_f (Lib.decDigits r ++ [UInt8.ofNat (48 + a)]) (by rw [List.all_append, dd_all, List.all_cons, isDig_of _ ha]; rfl) (by simp)
 rw [dnat_append, dnat_dd, dig_of a ha, show 48 + a - 48 = a by omega] at this
 exact this
theorem l0_round (D : List UInt8) (Y : ByteArray) (Q : ByteArray) (r i a : Nat) (hD : D.length ≤ 50000) (hi : i < D.length) (e : D.getD i 0 = UInt8.ofNat (48 + a)) (hr : (dtx r).size ≤ 50000) (k : Nat) :
  R.metrolabref01_divided.l0 (k + 1) (bas D) Y Q (dtx r) i = (R.metrolabref01_bare.f k (bas (Lib.decDigits r ++ [UInt8.ofNat (48 + a)]))).bind fun t172 => R.metrolabref01_divided.l1 k (bas D) Y Q t172 i 48 := by
 have e2 : (bas D).extract i (i + 1) = bas [UInt8.ofNat (48 + a)] := by rw [extract_one D i hi, e]
 have e3 : dtx r ++ bas [UInt8.ofNat (48 + a)] = bas (Lib.decDigits r ++ [UInt8.ofNat (48 + a)]) := bas_app _ _
 have c1 : (i : Int) < (D.length : Int) := by omega
 have c2 : (0 : Int) ≤ i := by omega
 have c3 : (i : Int) ≤ ((i + 1 : Nat) : Int) := by omega
 have c4 : ((i + 1 : Nat) : Int) ≤ (D.length : Int) := by omega
 have c5 : (dtx r).size + (bas [UInt8.ofNat (48 + a)]).size ≤ 9223372036854775807 := by rw [bas_size, List.length_singleton]; omega
 rw [R.metrolabref01_divided.l0, bas_size, if_pos c1, if_pos c2, wrap_succ (by omega), if_pos c3, if_pos c4, Int.toNat_natCast, Int.toNat_natCast, e2, if_pos c5, e3]
theorem divided_l0 (X Y : Nat) (hX : (dtx X).size ≤ 50000) (hY : (dtx Y).size ≤ 50000) (hY0 : 0 < Y) (d i : Nat) (hd : i + d = (Lib.decDigits X).length) (Q : List UInt8) (hQ : Q.length = i) (dQ : Q.all isDig = true) (r : Nat) (hr : r < Y) (hinv : dnat ((Lib.decDigits X).take i) = Y * dnat Q + r) :
  Runs (fun k => R.metrolabref01_divided.l0 k (dtx X) (dtx Y) (bas Q) (dtx r) i) (dtx (X / Y), dtx (X % Y)) := by
 have hXl : (Lib.decDigits X).length ≤ 50000 := by rw [← dtx_size]; exact hX
 induction d generalizing i Q r with
 | zero =>
  have hi : i = (Lib.decDigits X).length := by omega
  have hq0 : Q ≠ [] := by
   intro h; rw [h] at hQ
   have := List.length_pos_iff.2 (dd_ne_nil X)
   simp at hQ; omega
  rw [hi, List.take_length, dnat_dd] at hinv
  have e1 : X / Y = dnat Q := by
   rw [hinv, Nat.mul_add_div hY0, Nat.div_eq_of_lt hr, Nat.add_zero]
  have e2 : X % Y = r := by
   rw [hinv, Nat.mul_add_mod, Nat.mod_eq_of_lt hr]
  rw [e1, e2]
  refine Runs.succ (Runs.bind (f := fun _ t171 => some (t171, dtx r)) (bare_f Q dQ hq0) (Runs.pure _)) fun k => ?_
  rw [R.metrolabref01_divided.l0, dtx_size, if_neg (by omega)]
 | succ d ih =>
  have hi : i < (Lib.decDigits X).length := by omega
  obtain ⟨a, ha, ea, ea2⟩ := digit_at (dd_all X) hi
  have hdc := getD_digit (dd_all X) hi ea2
  have hrs : (dtx r).size ≤ 50000 := Nat.le_trans (dtx_mono (Nat.le_of_lt hr)) hY
  have h10 : (dtx (10 * r + a)).size ≤ 50001 := dtx_snoc ha hrs
  have hsum : (10 * r + a) / Y ≤ 9 := by
   have : (10 * r + a) / Y < 10 := by rw [Nat.div_lt_iff_lt_mul hY0]; omega
   omega
  have hdm := Nat.div_add_mod (10 * r + a) Y
  have hml := Nat.mod_lt (10 * r + a) hY0
  have hinv2 := div_step (a := a) hinv hdm
  generalize (10 * r + a) / Y = q at *
  generalize (10 * r + a) % Y = m at *
  have hn := ih (i + 1) (by omega) (Q ++ [UInt8.ofNat (48 + q)]) (by rw [List.length_append, hQ, List.length_singleton]) (by rw [List.all_append, dQ, List.all_cons, isDig_of q (by omega)]; rfl) m hml (by
   rw [dnat_take_succ _ _ hi, ea2, hinv2, dnat_append, dig_of q (by omega), Nat.add_sub_cancel_left])
  have hl := divided_l1 (dtx X) Y Q i (dtx (X / Y), dtx (X % Y)) (by omega) (by omega) (by omega) m hml q 0 (by omega) (by rw [hdm]; omega) (by omega) (by rw [Nat.zero_add]; exact hn)
  rw [hdm] at hl
  exact Runs.succ (Runs.bind (f := fun k t172 => R.metrolabref01_divided.l1 k (dtx X) (dtx Y) (bas Q) t172 i 48) (bare_snoc r a ha) hl) fun k => l0_round (Lib.decDigits X) (dtx Y) (bas Q) r i a hXl hi hdc hrs k
theorem divided_f (X Y : Nat) (hX : (dtx X).size ≤ 50000) (hY : (dtx Y).size ≤ 50000) (hY0 : 0 < Y) : Runs (fun k => R.metrolabref01_divided.f k (dtx X) (dtx Y)) (dtx (X / Y), dtx (X % Y)) := by
 have h := divided_l0 X Y hX hY hY0 (Lib.decDigits X).length 0 (by omega) [] rfl rfl 0 hY0 (by rw [List.take_zero]; simp [dnat])
 have e : dtx 0 = ⟨#[48]⟩ := by rw [dtx_eq]; exact itx_zero
 rw [e] at h
 exact h
end Go.Proofs.YtkdpcgmnkifbbaaGreatDoor
end
section
namespace Go.Proofs.YtkdpcgmnkifbbaaGreatDoor
open Go.RowKit Go.Proofs.YtkdpcgmnkifbbaaGreatDoorW.PrintWords Go.Proofs.YtkdpcgmnkifbbaaGreatDoorW.PrintMore
theorem tdiv_back {u v q r : Int} (hv : v ≠ 0) (h : v * q + r = u) : Int.tdiv (u - r) v = q := by
 rw [show u - r = v * q by omega]; exact Int.mul_tdiv_cancel_left _ hv
theorem tdiv_back1 {u v q r : Int} (hv : v ≠ 0) (h : v * q + r = u) : Int.tdiv (u - (r + v)) v = q - 1 := by
 rw [show u - (r + v) = v * (q - 1) by rw [Int.mul_sub, Int.mul_one]; omega]; exact Int.mul_tdiv_cancel_left _ hv
theorem small_parted (u v : Int) (hv : v ≠ 0) (hu : u.natAbs < 1000000000000000000) (hv2 : v.natAbs < 1000000000000000000) (b : Bool) (hb : b = ((u.tmod v != 0) && ((decide (u.tmod v < 0)) != (decide (v < 0))))) :
  Runs (fun k => R.metrolabref01_Parted.j0 k u v (u.tmod v) b) (itx (u.fdiv v), itx (u.fmod v)) := by
 have h1 := Int.mul_tdiv_add_tmod u v
 have h2 : (u.tmod v).natAbs < v.natAbs := by rw [Int.natAbs_tmod]; exact Nat.mod_lt _ (by omega)
 have h3 : (u.tdiv v).natAbs ≤ u.natAbs := by rw [Int.natAbs_tdiv]; exact Nat.div_le_self _ _
 have hp := part_small (m := u) hv
 rw [← hb] at hp
 clear hb
 generalize u.tdiv v = q at *
 generalize u.tmod v = r at *
 cases b
 ·obtain ⟨e1, e2⟩ := hp.1 (by decide)
  rw [e1, e2]
  have hd := tdiv_back hv h1
  clear e1 e2 hp h1
  have w1 : wrap64 (u - r) = u - r := IntWalk.wrap64_in _ (by omega)
  have w2 : wrap64 q = q := IntWalk.wrap64_in _ (by omega)
  have o1 := ref_of q (by omega) (by omega)
  have o2 := ref_of r (by omega) (by omega)
  refine Runs.succ (f := fun k => (R.metrolabref01_Of.f k q).bind fun t183 => ((R.metrolabref01_Of.f k r).bind fun t184 => (some (t183, t184)))) (Runs.bind o1 (Runs.bind o2 (Runs.pure _))) fun k => ?_
  rw [R.metrolabref01_Parted.j0, if_neg (by decide), if_neg hv, w1, hd, w2]
 ·obtain ⟨e1, e2⟩ := hp.2 rfl
  rw [e1, e2]
  have hd := tdiv_back1 hv h1
  clear e1 e2 hp h1
  have w0 : wrap64 (r + v) = r + v := IntWalk.wrap64_in _ (by omega)
  have w1 : wrap64 (u - (r + v)) = u - (r + v) := IntWalk.wrap64_in _ (by omega)
  have w2 : wrap64 (q - 1) = q - 1 := IntWalk.wrap64_in _ (by omega)
  have o1 := ref_of (q - 1) (by omega) (by omega)
  have o2 := ref_of (r + v) (by omega) (by omega)
  refine Runs.succ (f := fun k => (R.metrolabref01_Of.f k (q - 1)).bind fun t183 => ((R.metrolabref01_Of.f k (r + v)).bind fun t184 => (some (t183, t184)))) (Runs.bind o1 (Runs.bind o2 (Runs.pure _))) fun k => ?_
  rw [R.metrolabref01_Parted.j0, if_pos rfl, if_neg hv, w0, w1, hd, w2]
theorem dtx_pred (q : Int) {n : Nat} (h : (dtx q.natAbs).size ≤ n) : (dtx (q - 1).natAbs).size ≤ n + 1 := by
 have h1 := lt_of_size h
 refine size_of_lt ?_ (by omega)
 rw [Nat.pow_succ]
 generalize 10 ^ n = p at *
 omega
theorem long_parted (u v : Int) (hu : (dtx u.natAbs).size ≤ 40000) (hv2 : (dtx v.natAbs).size ≤ 40000) (q : Int) (hq : (dtx q.natAbs).size ≤ 40000) (b : Bool) (hd : u.fdiv v = if b then q - 1 else q) :
  Runs (fun k => R.metrolabref01_Parted.j1 k (itx u) (itx v) (itx q) b) (itx (u.fdiv v), itx (u.fmod v)) := by
 have hm : u - u.fdiv v * v = u.fmod v := by rw [Int.fmod_def, Int.mul_comm]
 cases b
 ·have hd2 : u.fdiv v = q := by simpa using hd
  rw [hd2] at hm ⊢
  have ht := ref_times q v (by omega) (by omega)
  have hs := dtx_mul hq hv2
  rw [← Int.natAbs_mul] at hs
  have hmi := ref_minus u (q * v) (by omega) (by omega)
  rw [hm] at hmi
  refine Runs.succ (f := fun k => (R.metrolabref01_Times.f k (itx q) (itx v)).bind fun t197 => ((R.metrolabref01_Minus.f k (itx u) t197).bind fun t198 => (some (itx q, t198)))) (Runs.bind ht (Runs.bind hmi (Runs.pure _))) fun k => ?_
  rw [R.metrolabref01_Parted.j1, if_neg (by decide)]
 ·have hd2 : u.fdiv v = q - 1 := by simpa using hd
  rw [hd2] at hm ⊢
  have hq1 := dtx_pred q hq
  have h1s : (dtx (1 : Int).natAbs).size ≤ 90000 := by rw [show (1 : Int).natAbs = 1 from rfl, dtx_size, dd_small (by decide)]; decide
  have hm1 := ref_minus q 1 (by omega) h1s
  have ht := ref_times (q - 1) v (by omega) (by omega)
  have hs := dtx_mul hq1 hv2
  rw [← Int.natAbs_mul] at hs
  have hmi := ref_minus u ((q - 1) * v) (by omega) (by omega)
  rw [hm] at hmi
  refine Runs.succ (f := fun k => (R.metrolabref01_Minus.f k (itx q) (itx 1)).bind fun t194 => ((R.metrolabref01_Times.f k t194 (itx v)).bind fun t195 => ((R.metrolabref01_Minus.f k (itx u) t195).bind fun t196 => (some (t194, t196))))) (Runs.bind hm1 (Runs.bind ht (Runs.bind hmi (Runs.pure _)))) fun k => ?_
  rw [R.metrolabref01_Parted.j1, if_pos rfl, one_text]
theorem dtx_zero_list (m : Nat) : ((dtx m).toList = ([48] : List UInt8)) ↔ m = 0 := by
 rw [Lib.toList_data, dtx_list]; exact dd_zero_iff m
theorem ref_parted (u v : Int) (hv : v ≠ 0) (hu : (dtx u.natAbs).size ≤ 40000) (hv2 : (dtx v.natAbs).size ≤ 40000) :
  Runs (fun k => R.metrolabref01_Parted.f k (itx u) (itx v)) (itx (u.fdiv v), itx (u.fmod v)) := by
 unfold R.metrolabref01_Parted.f
 refine Runs.bind (brief_f u v) ?_
 by_cases h : (dtx u.natAbs).size ≤ 18 ∧ (dtx v.natAbs).size ≤ 18
 ·rw [if_pos h]
  simp only [if_true, if_neg hv]
  have hs1 := dtx_small h.1
  have hs2 := dtx_small h.2
  by_cases hr : u.tmod v = 0
  ·simp only [if_pos hr]
   exact small_parted u v hv hs1 hs2 false (by rw [hr]; rfl)
  ·simp only [if_neg hr]
   exact small_parted u v hv hs1 hs2 _ (by rw [show (u.tmod v != 0) = true by simpa using hr]; rfl)
 ·rw [if_neg h]
  simp only [Bool.false_eq_true, if_false, size_itx, below_itx, Option.bind_some]
  have hvn : 0 < v.natAbs := by omega
  refine Runs.bind (divided_f u.natAbs v.natAbs (by omega) (by omega) hvn) ?_
  have hq : (dtx (u.natAbs / v.natAbs)).size ≤ 40000 := Nat.le_trans (dtx_mono (Nat.div_le_self _ _)) hu
  have hsg : ∀ s, (dtx (sg s (u.natAbs / v.natAbs)).natAbs).size ≤ 40000 := fun s => by rw [sg_abs]; exact hq
  simp only [signed_f _ _ (Nat.le_trans hq (by decide)), Option.bind_some, dtx_zero_list]
  by_cases hr : u.natAbs % v.natAbs = 0
  ·simp only [if_pos hr]
   have hp := (part_plain' u.natAbs v.natAbs (decide (u < 0)) (decide (v < 0)) hvn (.inl hr)).1
   rw [sg_val, sg_val] at hp
   exact long_parted u v hu hv2 _ (hsg _) false (by rw [hp]; rfl)
  ·simp only [if_neg hr]
   by_cases hs : decide (u < 0) = decide (v < 0)
   ·have hp := (part_plain' u.natAbs v.natAbs (decide (u < 0)) (decide (v < 0)) hvn (.inr hs)).1
    rw [sg_val, sg_val] at hp
    refine long_parted u v hu hv2 _ (hsg _) _ ?_
    rw [hp, hs]; simp
   ·have hp := (part_turn' u.natAbs v.natAbs (decide (u < 0)) (decide (v < 0)) hvn (by omega) hs).1
    rw [sg_val, sg_val] at hp
    refine long_parted u v hu hv2 _ (hsg _) _ ?_
    have hne : (decide (u < 0) != decide (v < 0)) = true := by rw [bne_iff_ne]; exact hs
    rw [hp, hne]
    unfold sg
    simp
    omega
theorem gcd_step (a b : Nat) : Nat.gcd a b = Nat.gcd b (a % b) := by rw [Nat.gcd_comm, Nat.gcd_rec, Nat.gcd_comm]
theorem shared_l1 (b : Nat) : ∀ a : Nat, a < 1000000000000000000 → b < 1000000000000000000 → Runs (fun k => R.metrolabref01_Shared.l1 k a b) (itx (Nat.gcd a b : Nat)) := by
 induction b using Nat.strongRecOn with
 | _ b ih =>
  intro a ha hb
  by_cases h0 : b = 0
  ·subst h0
   rw [Nat.gcd_zero_right]
   refine Runs.succ (Runs.bind (f := fun _ t206 => some t206) (ref_of a (by omega) (by omega)) (Runs.pure _)) fun k => ?_
   rw [R.metrolabref01_Shared.l1, if_neg (by decide)]
  ·have hlt := Nat.mod_lt a (show b > 0 by omega)
   have hn := ih (a % b) hlt b hb (by omega)
   rw [gcd_step a b]
   refine Runs.succ hn fun k => ?_
   rw [R.metrolabref01_Shared.l1, if_pos (by omega), if_neg (by omega)]; rfl
theorem fmod_nat (a b : Nat) : Int.fmod (a : Int) (b : Int) = ((a % b : Nat) : Int) := by
 rw [Int.fmod_eq_emod_of_nonneg _ (Int.natCast_nonneg b)]; rfl
theorem shared_l0 (b : Nat) : ∀ a : Nat, (dtx a).size ≤ 40000 → (dtx b).size ≤ 40000 → Runs (fun k => R.metrolabref01_Shared.l0 k (itx a) (itx b)) (itx (Nat.gcd a b : Nat)) := by
 induction b using Nat.strongRecOn with
 | _ b ih =>
  intro a ha hb
  by_cases h0 : b = 0
  ·subst h0
   rw [Nat.gcd_zero_right]
   have hz : (itx ((0 : Nat) : Int)).toList = ([48] : List UInt8) := (itx_zero_list _).2 rfl
   refine Runs.succ (Runs.pure _) fun k => ?_
   rw [R.metrolabref01_Shared.l0, if_pos hz]
  ·have hlt := Nat.mod_lt a (show b > 0 by omega)
   have hnz : ¬ ((itx (b : Int)).toList = ([48] : List UInt8)) := fun h => by have := (itx_zero_list _).1 h; omega
   refine Runs.succ (f := fun k => (R.metrolabref01_brief.f k (itx a) (itx b)).bind fun bt203 => (if bt203.2.2 = true then (R.metrolabref01_Shared.l1 k bt203.1 bt203.2.1) else ((R.metrolabref01_Parted.f k (itx a) (itx b)).bind fun bt207 => (R.metrolabref01_Shared.l0 k (itx b) bt207.2)))) ?_ fun k => ?_
   ·refine Runs.bind (brief_f a b) ?_
    by_cases h : (dtx (a : Int).natAbs).size ≤ 18 ∧ (dtx (b : Int).natAbs).size ≤ 18
    ·rw [if_pos h]
     simp only [if_true]
     exact shared_l1 b a (dtx_small h.1) (dtx_small h.2)
    ·rw [if_neg h]
     simp only [Bool.false_eq_true, if_false]
     have hp := ref_parted (a : Int) (b : Int) (by omega) ha hb
     rw [fmod_nat] at hp
     have hn := ih (a % b) hlt b hb (Nat.le_trans (dtx_mono (Nat.le_of_lt hlt)) hb)
     rw [gcd_step a b]
     exact Runs.bind hp hn
   ·rw [R.metrolabref01_Shared.l0, if_neg hnz]
theorem ref_shared (u v : Int) (hu : (dtx u.natAbs).size ≤ 40000) (hv : (dtx v.natAbs).size ≤ 40000) : Runs (fun k => R.metrolabref01_Shared.f k (itx u) (itx v)) (itx (gcdv u v)) := by
 refine Runs.congr (shared_l0 v.natAbs u.natAbs hu hv) fun k => ?_
 unfold R.metrolabref01_Shared.f
 rw [size_itx, size_itx, Option.bind_some, signed_f _ _ (by omega), Option.bind_some, Option.bind_some, signed_f _ _ (by omega), Option.bind_some]
 rfl
end Go.Proofs.YtkdpcgmnkifbbaaGreatDoor
end
section
namespace Go.Proofs.YtkdpcgmnkifbbaaGreatDoor
open Go.RowKit Go.Proofs.YtkdpcgmnkifbbaaGreatDoorW.PrintWords Go.Proofs.YtkdpcgmnkifbbaaGreatDoorW.PrintMore
theorem Runs.pos {α : Type} {c : Prop} [Decidable c] {f g : Nat → Option α} {r : α} (h : c) (hr : Runs f r) : Runs (fun k => if c then f k else g k) r := by simp only [if_pos h]; exact hr
theorem Runs.neg {α : Type} {c : Prop} [Decidable c] {f g : Nat → Option α} {r : α} (h : ¬ c) (hr : Runs g r) : Runs (fun k => if c then f k else g k) r := by simp only [if_neg h]; exact hr
theorem chk_size90 {a : ByteArray} (h : chk a = 0) : (dtx (ival a).natAbs).size ≤ 1024 := by
 rw [dtx_size]; exact (fits_iff _).1 (chk_zero h).2
theorem rtx_parts (q : Rat) : rtx q = if q.den = 1 then itx q.num else (itx q.num ++ ⟨#[47]⟩) ++ itx (q.den : Int) := rfl
structure Len (n : Nat) (q : Rat) : Prop where
 num : (dtx q.num.natAbs).size ≤ n
 den : (dtx q.den).size ≤ n
theorem rtx_size_le {n : Nat} {q : Rat} (h : Len n q) : (rtx q).size ≤ 2 * n + 3 := by
 have h1 := itx_size_dtx q.num
 have h2 := itx_size_dtx (q.den : Int)
 rw [Int.natAbs_natCast] at h2
 have h3 := h.num
 have h4 := h.den
 rw [rtx_parts]
 split
 ·omega
 ·rw [ByteArray.size_append, ByteArray.size_append]; show _ + 1 + _ ≤ _; omega
theorem den_ne (p q : Rat) : (p.den : Int) * q.den ≠ 0 := by
 have h1 := p.den_nz
 have h2 := q.den_nz
 have := Nat.mul_pos (Nat.pos_of_ne_zero h1) (Nat.pos_of_ne_zero h2)
 have e : (p.den : Int) * q.den = ((p.den * q.den : Nat) : Int) := (Int.natCast_mul _ _).symm
 rw [e]; omega
theorem rat_sub (p q : Rat) : Rat.divInt (p.num * q.den - q.num * p.den) ((p.den : Int) * q.den) = p - q := by
 have h := Rat.divInt_sub_divInt p.num q.num (d₁ := p.den) (d₂ := q.den) (by have := p.den_nz; omega) (by have := q.den_nz; omega)
 rw [Rat.num_divInt_den, Rat.num_divInt_den] at h
 exact h.symm
theorem rat_mul (p q : Rat) : Rat.divInt (p.num * q.num) ((p.den : Int) * q.den) = p * q := by
 have h := Rat.divInt_mul_divInt p.num q.num (d₁ := p.den) (d₂ := q.den)
 rw [Rat.num_divInt_den, Rat.num_divInt_den] at h
 exact h.symm
def cmpq (p q : Rat) : Int := cmpv (p.num * q.den) (q.num * p.den)
theorem rtx_int (v : Int) : rtx (v : Rat) = itx v := by rw [rtx_parts, if_pos (by rfl)]; rfl
end Go.Proofs.YtkdpcgmnkifbbaaGreatDoor
end
