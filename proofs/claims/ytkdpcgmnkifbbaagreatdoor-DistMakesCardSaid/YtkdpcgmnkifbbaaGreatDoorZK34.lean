/- Joined by a program of this session out of its texts, with only what the last theorem needs: Pp Dx9. No conditions but those stated. -/
import Derived.Test.YtkdpcgmnkifbbaaGreatDoorZK33
import Derived.Test.YtkdpcgmnkifbbaaGreatDoorZK07
import Derived.Test.YtkdpcgmnkifbbaaGreatDoorZK28
import Derived.Test.YtkdpcgmnkifbbaaGreatDoorZK32
import Derived.Test.YtkdpcgmnkifbbaaGreatDoorZK27
set_option linter.unusedVariables false
set_option linter.unusedSimpArgs false
namespace Go.Proofs.YtkdpcgmnkifbbaaGreatDoorW.PrintLast
end Go.Proofs.YtkdpcgmnkifbbaaGreatDoorW.PrintLast
namespace Go.Proofs.YtkdpcgmnkifbbaaGreatDoorW.PrintMore
end Go.Proofs.YtkdpcgmnkifbbaaGreatDoorW.PrintMore
namespace Go.Proofs.YtkdpcgmnkifbbaaGreatDoorW.PrintWords
end Go.Proofs.YtkdpcgmnkifbbaaGreatDoorW.PrintWords
section
namespace Go.Proofs.YtkdpcgmnkifbbaaGreatDoor
open Go.RowKit Go.Proofs.YtkdpcgmnkifbbaaGreatDoorW.PrintWords Go.Proofs.YtkdpcgmnkifbbaaGreatDoorW.PrintMore
open D (S60 prs)
theorem mul_ev {u v : Int} {e : Nat} (hu : u.natAbs < 10 ^ e) (hv : v.natAbs < 10 ^ e) (hw : (u * v).natAbs < 10 ^ e) (he : e ≤ 1024) : D.whole_Mul.f (itx u) (itx v) = some (itx (u * v), 0) := by
 have h1 := chk_fits (fits_exp2 hu he)
 have h2 := chk_fits (fits_exp2 hv he)
 have s1 := chk_size h1
 have s2 := chk_size h2
 unfold D.whole_Mul.f
 rw [if_pos ⟨by omega, by omega⟩, two_go h1 h2, ival_itx, ival_itx, kept_fits (fits_exp2 hw he)]
def ppow (a : Int) (n : Nat) : List ByteArray := (List.range n).map fun j => itx (a ^ j)
theorem ppow_len (a : Int) (n : Nat) : (ppow a n).length = n := by unfold ppow; simp
theorem ppow_succ (a : Int) (n : Nat) : ppow a (n + 1) = ppow a n ++ [itx (a ^ n)] := by unfold ppow; rw [List.range_succ, List.map_append]; rfl
theorem ppow_at (a : Int) (n j : Nat) (h : j < n) : rdOf ByteArray.empty (ppow a n) (j : Int) = itx (a ^ j) := by
 unfold rdOf ppow
 rw [Int.toNat_natCast]
 simp [List.getD, h]
theorem pow_bd {a : Int} (h0 : 0 ≤ a) (h1 : a ≤ 1048576) {j : Nat} (hj : j ≤ 30) : (a ^ j).natAbs < 10 ^ 200 := by
 rw [Int.natAbs_pow]
 have h2 : a.natAbs ^ j ≤ 1048576 ^ j := Nat.pow_le_pow_left (by omega) j
 have h3 : 1048576 ^ j ≤ 1048576 ^ 30 := Nat.pow_le_pow_right (by decide) hj
 exact Nat.lt_of_le_of_lt (Nat.le_trans h2 h3) (by decide)
theorem dof_f (n : Int) (h0 : -9223372036854775808 ≤ n) (h1 : n ≤ 9223372036854775807) : D.whole_Of.f n = some (itx n) := of_f n h0 h1
theorem powers_l0 (a : Int) (n : Nat) (h0 : 0 ≤ a) (h1 : a ≤ 1048576) (hn : n ≤ 30) (d i : Nat) (hd : i + d = n) : Runs (fun k => D.dist_powers.l0 k a (ppow a (i + 1)) n i) (ppow a (n + 1), 0) := by
 induction d generalizing i with
 | zero =>
  have hi : i = n := by omega
  subst hi
  refine Runs.succ (Runs.pure _) fun k => ?_
  rw [D.dist_powers.l0, if_neg (by omega)]
 | succ d ih =>
  have hn2 := ih (i + 1) (by omega)
  rw [ppow_succ a (i + 1)] at hn2
  have hm := mul_ev (u := a ^ i) (v := a) (e := 200) (pow_bd h0 h1 (by omega)) (Nat.lt_of_le_of_lt (show a.natAbs ≤ 1048576 by omega) (by decide)) (by rw [← Int.pow_succ]; exact pow_bd h0 h1 (by omega)) (by decide)
  rw [← Int.pow_succ] at hm
  refine Runs.succ hn2 fun k => ?_
  rw [D.dist_powers.l0, if_pos (by omega), if_pos (by omega), ppow_len, if_pos (by omega), dof_f a (by omega) (by omega), Option.bind_some, ppow_at _ _ _ (by omega), hm, Option.bind_some, if_pos rfl, if_pos (by omega), IntWalk.wrap64_in _ (by omega)]
  rfl
theorem powers_run (a : Int) (n : Nat) (h0 : 0 ≤ a) (h1 : a ≤ 1048576) (hn : n ≤ 30) : Runs (fun k => D.dist_powers.f k a n) (ppow a (n + 1), 0) := by
 have h := powers_l0 a n h0 h1 hn n 0 (by omega)
 have e : ppow a (0 + 1) = [(⟨#[49]⟩ : ByteArray)] := by rw [ppow_succ, Int.pow_zero, one_text]; rfl
 rw [e] at h
 exact h
theorem pw10 {x a b : Nat} (h : x < 10 ^ a) (hab : a ≤ b) : x < 10 ^ b := Nat.lt_of_lt_of_le h (Nat.pow_le_pow_right (by decide) hab)
theorem wrap01 : wrap64 ((0 : Int) + 1) = 1 := by rw [IntWalk.wrap64_in _ (by decide)]; rfl
theorem wrap12 : wrap64 ((1 : Int) + 1) = 2 := by rw [IntWalk.wrap64_in _ (by decide)]; rfl
theorem wrap23 : wrap64 ((2 : Int) + 1) = 3 := by rw [IntWalk.wrap64_in _ (by decide)]; rfl
theorem one_lt_pow10 {e : Nat} (h : 0 < e) : (1 : Int).natAbs < 10 ^ e := Nat.lt_of_lt_of_le (show (1 : Int).natAbs < 10 ^ 1 by decide) (Nat.pow_le_pow_right (by decide) h)
theorem mul_lt_pow2 {u v : Int} {a b c : Nat} (hc : a + b = c) (hu : u.natAbs < 10 ^ a) (hv : v.natAbs < 10 ^ b) : (u * v).natAbs < 10 ^ c := by
 subst hc; exact mul_lt_pow hu hv
theorem product3_run (b u v : Int) (hb : b.natAbs < 10 ^ 200) (hu : u.natAbs < 10 ^ 200) (hv : v.natAbs < 10 ^ 200) : Runs (fun k => D.dist_product.f k [itx b, itx u, itx v]) (itx (b * u * v), 0) := by
 have big : ∀ {x : Int}, x.natAbs < 10 ^ 200 → x.natAbs < 10 ^ 600 := fun h => pw10 (b := 600) h (by decide)
 have big6 : ∀ {x : Int}, x.natAbs < 10 ^ 400 → x.natAbs < 10 ^ 600 := fun h => pw10 (b := 600) h (by decide)
 have h2 : (b * u).natAbs < 10 ^ 400 := mul_lt_pow2 (c := 400) rfl hb hu
 have h3 : (b * u * v).natAbs < 10 ^ 600 := mul_lt_pow2 (c := 600) rfl h2 hv
 have one9 := one_lt_pow10 (e := 600) (by decide)
 have m1 := mul_ev (u := 1) (v := b) one9 (big hb) (by rw [Int.one_mul]; exact big hb) (by decide)
 have m2 := mul_ev (u := b) (v := u) (big hb) (big hu) (big6 h2) (by decide)
 have m3 := mul_ev (u := b * u) (v := v) (big6 h2) (big hv) h3 (by decide)
 rw [Int.one_mul, ← one_text] at m1
 refine Runs.congr (f := fun k => D.dist_product.l0 k (⟨#[49]⟩ : ByteArray) [itx b, itx u, itx v] 3 0) ?_ fun k => rfl
 refine Runs.succ (Runs.succ (Runs.succ (Runs.succ (Runs.pure _) (g := fun k => D.dist_product.l0 k (itx (b * u * v)) [itx b, itx u, itx v] 3 3) fun k => ?_) (g := fun k => D.dist_product.l0 k (itx (b * u)) [itx b, itx u, itx v] 3 2) fun k => ?_) (g := fun k => D.dist_product.l0 k (itx b) [itx b, itx u, itx v] 3 1) fun k => ?_) fun k => ?_
 ·rw [D.dist_product.l0, if_neg (by decide)]
 ·rw [D.dist_product.l0, if_pos (by decide), if_pos (by decide), if_pos (by simp), show rdOf ByteArray.empty [itx b, itx u, itx v] 2 = itx v from rfl, m3, Option.bind_some, if_pos rfl, wrap23]
 ·rw [D.dist_product.l0, if_pos (by decide), if_pos (by decide), if_pos (by simp), show rdOf ByteArray.empty [itx b, itx u, itx v] 1 = itx u from rfl, m2, Option.bind_some, if_pos rfl, wrap12]
 ·rw [D.dist_product.l0, if_pos (by decide), if_pos (by decide), if_pos (by simp), show rdOf ByteArray.empty [itx b, itx u, itx v] 0 = itx b from rfl, m1, Option.bind_some, if_pos rfl, wrap01]
def binw (n : Nat) (p r : Int) (k : Nat) : Int := (ch n k : Nat) * p ^ k * r ^ (n - k)
def binl (n : Nat) (p r : Int) : Nat → List S60
 | 0 => []
 | k + 1 => if binw n p r k = 0 then binl n p r k else binl n p r k ++ [⟨(k : Int), itx (binw n p r k)⟩]
theorem binl_len (n : Nat) (p r : Int) : ∀ k, (binl n p r k).length ≤ k
 | 0 => Nat.le_refl _
 | k + 1 => by
  unfold binl
  have := binl_len n p r k
  split
  ·omega
  ·rw [List.length_append, List.length_singleton]; omega
theorem dbin_f (n k : Nat) (hk : k ≤ n) (hn : n ≤ 30) : D.whole_Binomial.f n k = some (itx (ch n k : Nat), 0) := by
 unfold D.whole_Binomial.f
 rw [if_pos ⟨by omega, by omega, by omega⟩, Int.toNat_natCast, Int.toNat_natCast]
theorem dbin_l0 (n : Nat) (p r : Int) (hn : n ≤ 30) (hp0 : 0 ≤ p) (hp1 : p ≤ 1048576) (hr0 : 0 ≤ r) (hr1 : r ≤ 1048576) (d i : Nat) (hd : i + d = n + 1) :
  Runs (fun k => D.dist_Binomial.l0 k n (ppow p (n + 1)) (ppow r (n + 1)) (binl n p r i) ((n + 1 : Nat) : Int) i) (binl n p r (n + 1), 0) := by
 induction d generalizing i with
 | zero =>
  have hi : i = n + 1 := by omega
  subst hi
  refine Runs.succ (Runs.pure _) fun k => ?_
  rw [D.dist_Binomial.l0, if_neg (by omega)]
 | succ d ih =>
  have hin : i ≤ n := by omega
  have hnx := ih (i + 1) (by omega)
  have hch : (((ch n i : Nat) : Int)).natAbs < 10 ^ 200 := by
   rw [Int.natAbs_natCast]; exact Nat.lt_of_le_of_lt (ch_small hn) (by decide)
  have hpr := product3_run ((ch n i : Nat) : Int) (p ^ i) (r ^ (n - i)) hch (pow_bd hp0 hp1 (by omega)) (pow_bd hr0 hr1 (by omega))
  have w1 : wrap64 ((n : Int) - (i : Int)) = ((n - i : Nat) : Int) := by rw [IntWalk.wrap64_in _ (by omega)]; omega
  have w2 : wrap64 ((i : Int) + 1) = ((i + 1 : Nat) : Int) := by rw [IntWalk.wrap64_in _ (by omega)]; omega
  have hbl := binl_len n p r i
  refine Runs.succ (Runs.bind (f := fun k bt143 => (if bt143.2 = 0 then (if bt143.1.toList = ([48] : List UInt8) then (D.dist_Binomial.l0 k n (ppow p (n + 1)) (ppow r (n + 1)) (binl n p r i) ((n + 1 : Nat) : Int) ((i + 1 : Nat) : Int)) else (if (binl n p r i).length < 5864062014805 then (D.dist_Binomial.l0 k n (ppow p (n + 1)) (ppow r (n + 1)) (binl n p r i ++ [(⟨(i : Int), bt143.1⟩ : S60)]) ((n + 1 : Nat) : Int) ((i + 1 : Nat) : Int)) else (none))) else (some (([] : List (S60)), bt143.2)))) hpr ?_) fun k => ?_
  ·refine Runs.pos rfl ?_
   have e : ((ch n i : Nat) : Int) * p ^ i * r ^ (n - i) = binw n p r i := rfl
   rw [e]
   simp only [itx_zero_list]
   unfold binl at hnx
   by_cases h0 : binw n p r i = 0
   ·rw [if_pos h0] at hnx
    exact Runs.pos h0 hnx
   ·rw [if_neg h0] at hnx
    exact Runs.neg h0 (Runs.pos (by omega) hnx)
  ·rw [D.dist_Binomial.l0, if_pos (by omega), dbin_f n i hin hn, Option.bind_some, if_pos rfl, if_pos (by omega), ppow_len, if_pos (by omega), w1, if_pos (by omega), ppow_len, if_pos (by omega), ppow_at _ _ _ (by omega), ppow_at _ _ _ (by omega), w2]
theorem dbin_run (n : Nat) (p q : Int) (hn : n ≤ 30) (hq : 1 ≤ q) (hq1 : q ≤ 1048576) (hp : 0 ≤ p) (hpq : p ≤ q) : Runs (fun k => D.dist_Binomial.f k n p q) (binl n p (q - p) (n + 1), 0) := by
 have h1 := powers_run p n hp (by omega) hn
 have h2 := powers_run (q - p) n (by omega) (by omega) hn
 have h3 := dbin_l0 n p (q - p) hn hp (by omega) (by omega) (by omega) (n + 1) 0 (by omega)
 have w1 : wrap64 (q - p) = q - p := IntWalk.wrap64_in _ (by omega)
 have w2 : wrap64 ((n : Int) + 1) = ((n + 1 : Nat) : Int) := by rw [IntWalk.wrap64_in _ (by omega)]; omega
 refine Runs.congr (Runs.succ (g := fun k => D.dist_Binomial.j0 k n p q false) (Runs.bind (f := fun k bt128 => (if bt128.2 = 0 then ((D.dist_powers.f k (q - p) n).bind fun bt132 => (if bt132.2 = 0 then (D.dist_Binomial.l0 k n bt128.1 bt132.1 ([] : List (S60)) ((n + 1 : Nat) : Int) 0) else (some (([] : List (S60)), bt132.2)))) else (some (([] : List (S60)), bt128.2)))) h1 ?_) fun k => ?_) fun k => ?_
 ·refine Runs.pos rfl ?_
  refine Runs.bind h2 ?_
  exact Runs.pos rfl h3
 ·rw [D.dist_Binomial.j0, if_neg (by decide), w1, w2]
 ·unfold D.dist_Binomial.f
  rw [if_neg (by omega), if_neg (by omega), if_neg (by omega), if_neg (by omega), if_neg (by omega), decide_eq_false (by omega)]
theorem same_l0 (l : List S60) (hl : l.length ≤ 4611686018427387904) (d i : Nat) (hd : i + d = l.length) : Runs (fun k => D.metrolabref26_Same.l0 k l l i) true := by
 induction d generalizing i with
 | zero =>
  refine Runs.succ (Runs.pure _) fun k => ?_
  rw [D.metrolabref26_Same.l0, if_neg (by omega)]
 | succ d ih =>
  refine Runs.succ (ih (i + 1) (by omega)) fun k => ?_
  rw [D.metrolabref26_Same.l0, if_pos (by omega), if_pos (by omega), if_pos (by omega), if_neg (by simp), IntWalk.wrap64_in _ (by omega)]; rfl
theorem same_run (l : List S60) (hl : l.length ≤ 4611686018427387904) : Runs (fun k => D.metrolabref26_Same.f k l l) true := by
 unfold D.metrolabref26_Same.f
 exact Runs.pos rfl (same_l0 l hl l.length 0 (by omega))
theorem dwithin_f (n : Int) : D.dist_within.f n = some (decide (-1048576 ≤ n ∧ n ≤ 1048576)) := by
 unfold D.dist_within.f
 by_cases h : n ≥ -1048576
 ·rw [if_pos h]
  by_cases h2 : n ≤ 1048576
  ·rw [decide_eq_true h2, decide_eq_true ⟨h, h2⟩]
  ·rw [decide_eq_false h2, decide_eq_false (fun h3 => h2 h3.2)]
 ·rw [if_neg h, decide_eq_false (fun h3 => h h3.1)]
theorem sc_round (m b u v : Int) (l acc : List S60) (i : Nat) (hi : i < l.length) (hl : l.length ≤ 4096) (ha : acc.length ≤ 4096) (hu : m * l[i].f0 = u) (hv : u + b = v) (hu0 : -9000000000000000000 ≤ u ∧ u ≤ 9000000000000000000) (hin : -1048576 ≤ v ∧ v ≤ 1048576) (k : Nat) :
  D.dist_Scale.l0 (k + 1) m b acc l (l.length : Int) i = D.dist_Scale.l0 k m b (acc ++ [⟨v, l[i].f1⟩]) l (l.length : Int) ((i + 1 : Nat) : Int) := by
 have hg := prs_get l i hi
 rw [D.dist_Scale.l0, if_pos (by omega), if_pos (by omega), if_pos (by omega), hg, hu, IntWalk.wrap64_in u (by omega), hv, IntWalk.wrap64_in v (by omega), dwithin_f, Option.bind_some, decide_eq_true hin, if_pos rfl, if_pos (by omega), IntWalk.wrap64_in _ (by omega)]
 rfl
theorem rev3 (a b c : S60) : Runs (fun k => D.api_Weighted.f k [a, b, c]) [c, b, a] := by
 have w1 : wrap64 ((([a, b, c] : List S60).length : Int) - 1) = 2 := by rw [IntWalk.wrap64_in _ (by simp)]; rfl
 have w2 : wrap64 ((0 : Int) + 1) = 1 := by rw [IntWalk.wrap64_in _ (by decide)]; rfl
 have w3 : wrap64 ((2 : Int) - 1) = 1 := by rw [IntWalk.wrap64_in _ (by decide)]; rfl
 refine Runs.congr (Runs.succ (Runs.succ (Runs.pure _) (g := fun k => D.api_Weighted.l0 k [c, b, a] 1 1) fun k => ?_) (g := fun k => D.api_Weighted.l0 k [a, b, c] 0 2) fun k => ?_) fun k => ?_
 ·rw [D.api_Weighted.l0, if_neg (by decide)]
 ·rw [D.api_Weighted.l0, if_pos (by decide), if_pos (by decide), if_pos (by simp), if_pos (by decide), if_pos (by simp), w2, w3]; rfl
 ·unfold D.api_Weighted.f; rw [w1]
theorem samp_scale : Runs (fun k => D.dist_Scale.f k samp (-2) 10) ([⟨2, itx 1⟩, ⟨6, itx 2⟩, ⟨8, itx 1⟩], 0) := by
 unfold D.dist_Scale.f
 rw [dcheck_f samp samp_fine, dwithin_f, dwithin_f]
 simp only [Option.bind_some]
 refine Runs.pos samp_dck (Runs.neg (by decide) (Runs.pos (by decide) (Runs.pos (by decide) ?_)))
 refine Runs.succ (Runs.succ (Runs.succ (Runs.succ (Runs.bind (f := fun _ t => some (t, (0 : Int))) (rev3 ⟨8, itx 1⟩ ⟨6, itx 2⟩ ⟨2, itx 1⟩) (Runs.pure _)) (g := fun k => D.dist_Scale.l0 k (-2) 10 [⟨8, itx 1⟩, ⟨6, itx 2⟩, ⟨2, itx 1⟩] samp (samp.length : Int) ((3 : Nat) : Int)) fun k => ?_) (g := fun k => D.dist_Scale.l0 k (-2) 10 [⟨8, itx 1⟩, ⟨6, itx 2⟩] samp (samp.length : Int) ((2 : Nat) : Int)) fun k => ?_) (g := fun k => D.dist_Scale.l0 k (-2) 10 [⟨8, itx 1⟩] samp (samp.length : Int) ((1 : Nat) : Int)) fun k => ?_) fun k => ?_
 ·rw [D.dist_Scale.l0, if_neg (by decide), if_pos (by decide)]
 ·exact sc_round (-2) 10 (-8) 2 samp _ 2 (by decide) (by decide) (by simp) (by decide) (by decide) (by decide) (by decide) k
 ·exact sc_round (-2) 10 (-4) 6 samp _ 1 (by decide) (by decide) (by simp) (by decide) (by decide) (by decide) (by decide) k
 ·exact sc_round (-2) 10 (-2) 8 samp _ 0 (by decide) (by decide) (by simp) (by decide) (by decide) (by decide) (by decide) k
theorem bin_ex : binl 3 1 2 4 = [⟨0, itx 8⟩, ⟨1, itx 12⟩, ⟨2, itx 6⟩, ⟨3, itx 1⟩] := by
 have e0 : binw 3 1 2 0 = 8 := by decide
 have e1 : binw 3 1 2 1 = 12 := by decide
 have e2 : binw 3 1 2 2 = 6 := by decide
 have e3 : binw 3 1 2 3 = 1 := by decide
 simp [binl, e0, e1, e2, e3]
theorem one_digit (n : Nat) (h : n < 10) : (⟨#[UInt8.ofNat (48 + n)]⟩ : ByteArray) = itx (n : Int) := by
 have := itx_one_digit n h
 rw [Lib.toList_data] at this
 rw [← Lib.mk_data (itx (n : Int)), this]
theorem twelve_text : (⟨#[49, 50]⟩ : ByteArray) = itx 12 := by
 have := itx_two_digits 12 (by decide) (by decide)
 rw [Lib.toList_data] at this
 rw [show (12 : Int) = ((12 : Nat) : Int) from rfl, ← Lib.mk_data (itx ((12 : Nat) : Int)), this]; rfl
theorem awake_run : Runs (fun k => D.metrolablaw26_awake.f k) true := by
 have m := samp_fine.ok
 have f1 : D.dist_Mean.f samp = some (rtx (Rat.divInt 9 4), 0) := by unfold D.dist_Mean.f; rw [if_pos m, samp_mean]
 have f2 : D.dist_Variance.f samp = some (rtx (Rat.divInt 19 16), 0) := by unfold D.dist_Variance.f; rw [if_pos m, samp_var]
 have f3 : D.dist_Probability.f samp 2 3 = some (rtx (Rat.divInt 1 2), 0) := by
  rw [dprob_f samp samp_fine, samp_prob 2 3 (by decide), sum_p23, (Rat.divInt_eq_divInt_iff (n₂ := 1) (d₂ := 2) (by decide) (by decide)).2 (by decide)]
 have h8 : (⟨#[56]⟩ : ByteArray) = itx 8 := one_digit 8 (by decide)
 have h6 : (⟨#[54]⟩ : ByteArray) = itx 6 := one_digit 6 (by decide)
 have b := dbin_run 3 1 3 (by decide) (by decide) (by decide) (by decide) (by decide)
 rw [show (3 : Int) - 1 = 2 from rfl, bin_ex] at b
 unfold D.metrolablaw26_awake.f
 rw [sample_f]
 simp only [Option.bind_some, f1, f2, f3]
 refine Runs.bind samp_quant (Runs.bind b (Runs.bind samp_scale ?_))
 refine Runs.pos (by simp [wrap64]) ?_
 refine Runs.pos txt_mean (Runs.pos txt_var (Runs.pos txt_half (Runs.pos rfl ?_)))
 rw [h8, h6, twelve_text, one_text, two_text]
 refine Runs.bind (same_run _ (by simp)) (Runs.pos rfl ?_)
 exact Runs.bind (same_run _ (by simp)) (Runs.pure _)
end Go.Proofs.YtkdpcgmnkifbbaaGreatDoor
end
section
namespace Go.Proofs.YtkdpcgmnkifbbaaGreatDoor.D
open Go.RowKit Go.Proofs.YtkdpcgmnkifbbaaGreatDoorW.PrintWords Go.Proofs.YtkdpcgmnkifbbaaGreatDoorW.PrintLast Go.Proofs.YtkdpcgmnkifbbaaGreatDoorW.PrintMore
attribute [local go_sem] max2_int min2_int max_two min_two max_three min_three max_four min_four
set_option linter.unusedVariables false
set_option linter.unusedSimpArgs false
mutual
def dist_Uniform.j0 : Nat → Int → Int → Int → Bool → Option ((List (S60)) × Int)
 | 0, _, _, _, _ => none
 | k + 1, x0, x1, x2, x10 => if x10 = true then (some (([] : List (S60)), 2)) else (if x0 > x1 then (some (([] : List (S60)), 9)) else (if x2 = 0 then (none) else (if (wrap64 ((wrap64 (Int.tdiv (wrap64 (x1 - x0)) x2)) + 1)) > 4096 then (some (([] : List (S60)), 5)) else (dist_Uniform.l0 k x1 x2 ([] : List (S60)) x0))))
def dist_Uniform.l0 : Nat → Int → Int → List (S60) → Int → Option ((List (S60)) × Int)
 | 0, _, _, _, _ => none
 | k + 1, x1, x2, x8, x9 => if x9 ≤ x1 then (if x8.length < 5864062014805 then (dist_Uniform.l0 k x1 x2 (x8 ++ [(⟨x9, (⟨#[49]⟩ : ByteArray)⟩ : S60)]) (wrap64 (x9 + x2))) else (none)) else (some (x8, 0))
end
def dist_Uniform.f (k : Nat) (a0 : Int) (a1 : Int) (a2 : Int) : Option ((List (S60)) × Int) := (dist_within.f a0).bind fun t273 => (if t273 = true then ((dist_within.f a1).bind fun t274 => (if t274 = true then (if a2 < 1 then (dist_Uniform.j0 k a0 a1 a2 true) else (dist_Uniform.j0 k a0 a1 a2 (decide (a2 > 1048576)))) else (dist_Uniform.j0 k a0 a1 a2 true))) else (dist_Uniform.j0 k a0 a1 a2 true))
set_option maxHeartbeats 8000000 in
set_option maxRecDepth 100000 in
theorem dist_Uniform.calls (k : Nat) (a0 : Int) (a1 : Int) (a2 : Int) (r1 : List (S60)) (r2 : Int) (w : World) (h : dist_Uniform.f k a0 a1 a2 = some (r1, r2)) :
  Calls Tryz.prog 22 #[.int .i64 a0, .int .i64 a1, .int .i64 a2] w fun e w' => ∃ v0_ : Value, e = .returned (.tuple #[v0_, .int .i64 r2]) ∧ Kd.R k60 60 w' w.heap.size (fun _ => True) v0_ r1 ∧ Below w.heap.size w w' := by
 have hu60 := Tryz.underlying60
 have HB := Aside0.mk (Below.refl w.heap.size w)
 have H : ((dist_within.f a0).bind fun t273 => (if t273 = true then ((dist_within.f a1).bind fun t274 => (if t274 = true then (if a2 < 1 then (dist_Uniform.j0 k a0 a1 a2 true) else (dist_Uniform.j0 k a0 a1 a2 (decide (a2 > 1048576)))) else (dist_Uniform.j0 k a0 a1 a2 true))) else (dist_Uniform.j0 k a0 a1 a2 true))) = some (r1, r2) := h
 clear h
 have HC4 := Aside0.mk H
 clear H
 go_enter Tryz.func22, Tryz.ntmps22
 go_upto_region 1 with (fail)
 go_cut [10] (fun v10 wc => ∃ (kq : Nat) (x10_3 : Bool), v10 = .bool x10_3 ∧ Aside0 (dist_Uniform.j0 kq a0 a1 a2 x10_3 = some (r1, r2)) ∧ Aside0 (kq ≤ k) ∧ Aside0 (Below w.heap.size w wc))
 case first =>
  have H := HC4.out
  clear HC4
  obtain ⟨t273, A5, H⟩ := bindA H
  by_cases c6 : t273 = true
  ·subst c6
   rw [if_pos rfl] at H
   obtain ⟨t274, A7, H⟩ := bindA H
   by_cases c8 : t274 = true
   ·subst c8
    rw [if_pos rfl] at H
    by_cases c9 : a2 < 1
    ·rw [if_pos c9] at H
     have c9b0 : decide (a2 < 1) = true := decide_eq_true c9
     clear c9
     (first | rw [c9b0] | (simp only [i64_w, i32_w]; rw [c9b0]) | skip)
     have H' := Aside0.mk H
     clear H
     go_wp2_with (first | (refine gz (f := 50) rfl (some 12) rfl Tryz.func50 (dist_within.calls a0 true _ A5.out) ?_; rintro w' ⟨nd, rfl⟩) | (go_at_call 50; (with_reducible refine (dist_within.calls a1 true _ A7.out).mono ?_); rintro e w' ⟨rfl, ⟨nd, rfl⟩⟩))
     go_meet
     case rel => exact ⟨_, (true), z25_, H', ⟨by first | omega | exact Nat.le_refl _⟩, ⟨by repeat (first | (with_reducible first | exact HB.out | apply below_alloc | apply pw_below_drewN | apply below_drew1) | exact HB.out)⟩⟩
    ·rw [if_neg c9] at H
     have c9b0 : decide (a2 < 1) = false := decide_eq_false c9
     clear c9
     (first | rw [c9b0] | (simp only [i64_w, i32_w]; rw [c9b0]) | skip)
     have H' := Aside0.mk H
     clear H
     go_wp2_with (first | (refine gz (f := 50) rfl (some 12) rfl Tryz.func50 (dist_within.calls a0 true _ A5.out) ?_; rintro w' ⟨nd, rfl⟩) | (go_at_call 50; (with_reducible refine (dist_within.calls a1 true _ A7.out).mono ?_); rintro e w' ⟨rfl, ⟨nd, rfl⟩⟩))
     go_meet
     case rel => exact ⟨_, (decide (a2 > 1048576)), z25_, H', ⟨by first | omega | exact Nat.le_refl _⟩, ⟨by repeat (first | (with_reducible first | exact HB.out | apply below_alloc | apply pw_below_drewN | apply below_drew1) | exact HB.out)⟩⟩
   ·replace c8 := Bool.eq_false_iff.mpr c8
    subst c8
    rw [if_neg (show ¬ (false = true) by decide)] at H
    have H' := Aside0.mk H
    clear H
    go_wp2_with (first | (refine gz (f := 50) rfl (some 12) rfl Tryz.func50 (dist_within.calls a0 true _ A5.out) ?_; rintro w' ⟨nd, rfl⟩) | (go_at_call 50; (with_reducible refine (dist_within.calls a1 false _ A7.out).mono ?_); rintro e w' ⟨rfl, ⟨nd, rfl⟩⟩))
    go_meet
    case rel => exact ⟨_, (true), z25_, H', ⟨by first | omega | exact Nat.le_refl _⟩, ⟨by repeat (first | (with_reducible first | exact HB.out | apply below_alloc | apply pw_below_drewN | apply below_drew1) | exact HB.out)⟩⟩
  ·replace c6 := Bool.eq_false_iff.mpr c6
   subst c6
   rw [if_neg (show ¬ (false = true) by decide)] at H
   have H' := Aside0.mk H
   clear H
   go_wp2_with (first | (refine gz (f := 50) rfl (some 12) rfl Tryz.func50 (dist_within.calls a0 false _ A5.out) ?_; rintro w' ⟨nd, rfl⟩))
   go_meet
   case rel => exact ⟨_, (true), z25_, H', ⟨by first | omega | exact Nat.le_refl _⟩, ⟨by repeat (first | (with_reducible first | exact HB.out | apply below_alloc | apply pw_below_drewN | apply below_drew1) | exact HB.out)⟩⟩
 case rest =>
  clear HC4
  try clear c2
  try clear p2
  try clear c5
  try clear c6
  try clear c8
  try clear c9
  try clear c9b0
  obtain ⟨kq, x10_3, rfl, HA, HJ3, HB⟩ := hcut
  cases kq with
  | zero => exact absurd HA.out (by simp [dist_Uniform.j0])
  | succ kj3 =>
   have H := HA.out
   clear HA
   simp only [dist_Uniform.j0] at H
   by_cases c10 : x10_3 = true
   ·subst c10
    rw [if_pos rfl] at H
    simp only [Option.some.injEq, Prod.mk.injEq] at H
    obtain ⟨rfl, rfl⟩ := H
    go_wp2
    go_ret2
    exact ⟨_, z24_, by first | exact Kd.R_nil _ _ _ _ _ | exact Kd.N_nil _ _ _ _ _ | exact Kd.V_nil _ _ _ _ _ | exact Kd.Q_nil _ _ _ _ _ | exact Kd.S_nil _ _ _ _ _, z10_⟩
   ·replace c10 := Bool.eq_false_iff.mpr c10
    subst c10
    rw [if_neg (show ¬ (false = true) by decide)] at H
    by_cases c11 : a0 > a1
    ·rw [if_pos c11] at H
     have c11b0 : decide (a1 < a0) = true := decide_eq_true c11
     clear c11
     simp only [Option.some.injEq, Prod.mk.injEq] at H
     obtain ⟨rfl, rfl⟩ := H
     go_wp2
     go_ret2
     exact ⟨_, z24_, by first | exact Kd.R_nil _ _ _ _ _ | exact Kd.N_nil _ _ _ _ _ | exact Kd.V_nil _ _ _ _ _ | exact Kd.Q_nil _ _ _ _ _ | exact Kd.S_nil _ _ _ _ _, z10_⟩
    ·rw [if_neg c11] at H
     have c11b0 : decide (a1 < a0) = false := decide_eq_false c11
     clear c11
     by_cases c12 : a2 = 0
     ·rw [if_pos c12] at H
      exact absurd H (by simp)
     ·rw [if_neg c12] at H
      have c12b0 := beq_eq_false_iff_ne.mpr c12
      have c12b1 := bne_iff_ne.mpr c12
      by_cases c13 : (wrap64 ((wrap64 (Int.tdiv (wrap64 (a1 - a0)) a2)) + 1)) > 4096
      ·rw [if_pos c13] at H
       have c13b0 : decide (4096 < (wrap64 ((wrap64 (Int.tdiv (wrap64 (a1 - a0)) a2)) + 1))) = true := decide_eq_true c13
       clear c13
       simp only [Option.some.injEq, Prod.mk.injEq] at H
       obtain ⟨rfl, rfl⟩ := H
       go_wp2
       go_ret2
       exact ⟨_, z24_, by first | exact Kd.R_nil _ _ _ _ _ | exact Kd.N_nil _ _ _ _ _ | exact Kd.V_nil _ _ _ _ _ | exact Kd.Q_nil _ _ _ _ _ | exact Kd.S_nil _ _ _ _ _, z10_⟩
      ·rw [if_neg c13] at H
       have c13b0 : decide (4096 < (wrap64 ((wrap64 (Int.tdiv (wrap64 (a1 - a0)) a2)) + 1))) = false := decide_eq_false c13
       clear c13
       have H' := Aside0.mk H
       clear H
       go_wp2
       go_loopg [8, 9] kj3 (fun kq v8 v9 w' => ∃ (x8_2 : List (S60)) (x9_2 : Int), v9 = .int .i64 x9_2 ∧ Aside0 (dist_Uniform.l0 kq a1 a2 x8_2 x9_2 = some (r1, r2)) ∧ Aside0 (kq ≤ kj3) ∧ Aside0 (Kd.R k60 60 w' w.heap.size (fun _ => True) v8 x8_2) ∧ Aside0 (Below w.heap.size w w'))
       case atStart => exact ⟨(([] : List (S60))), (a0), z25_, H', ⟨Nat.le_refl _⟩, ⟨by first | exact Kd.R_nil _ _ _ _ _ | exact Kd.N_nil _ _ _ _ _ | exact Kd.V_nil _ _ _ _ _ | exact Kd.Q_nil _ _ _ _ _ | exact Kd.S_nil _ _ _ _ _⟩, ⟨by repeat (first | (with_reducible first | exact HB.out | apply below_alloc | apply pw_below_drewN | apply below_drew1) | exact HB.out)⟩⟩
       case round =>
        clear H'
        try clear c1
        try clear c2
        try clear p2
        try clear c5
        try clear c6
        try clear p6
        try clear c8
        try clear c9
        try clear c9b0
        try clear c10
        try clear c11
        try clear c11b0
        try clear c12
        try clear c12b0
        try clear c12b1
        try clear c13
        try clear c13b0
        try clear p2
        obtain ⟨x8_2, x9_2, rfl, HA, HK2, HO_8, HB⟩ := hrel
        cases gk with
        | zero => exact absurd HA.out (by simp [dist_Uniform.l0])
        | succ k2 =>
         have H := HA.out
         clear HA
         simp only [dist_Uniform.l0] at H
         by_cases c14 : x9_2 ≤ a1
         ·rw [if_pos c14] at H
          have c14b0 : decide (x9_2 ≤ a1) = true := decide_eq_true c14
          clear c14
          by_cases c15 : x8_2.length < 5864062014805
          ·rw [if_pos c15] at H
           have LMc15 := Aside0.mk c15
           clear c15
           obtain ⟨y275, hy275⟩ : ∃ y_ : List (S60), y_ = (x8_2 ++ [(⟨x9_2, (⟨#[49]⟩ : ByteArray)⟩ : S60)]) := ⟨_, rfl⟩
           replace H : (dist_Uniform.l0 k2 a1 a2 y275 (wrap64 (x9_2 + a2))) = some (r1, r2) := by first | (rw [hy275]; with_reducible exact H) | (have H2_ := (Option.bind_some _ _).symm.trans H; rw [hy275]; with_reducible exact H2_) | (have H2_ := (Option.bind_some _ _).symm.trans H; with_reducible exact H2_) | with_reducible exact H | (rw [hy275]; exact H) | exact H
           have Ny275 := Aside0.mk hy275
           clear hy275
           have H' := Aside0.mk H
           clear H
           go_wp2_with (first | ((with_reducible refine gate_builtin (b := .append) (xs := #[.tmp 46, .tmp 49]) rfl ?_); at_builtin; refine Kd.R_append k60 (w0 := w) w.heap.size rfl (.tmp 46) (.tmp 49) 22 60 (.agg #[(.int .i64 0), (.string ⟨#[]⟩)]) 24 rfl Tryz.underlying22 info60 rfl (by decide) (by omega) u8 x8_2 (⟨x9_2, (⟨#[49]⟩ : ByteArray)⟩ : S60) [.int .i64 x9_2, .string (⟨#[49]⟩ : ByteArray)] (fun _ => True) (fun _ => False) rfl rfl ?aP (fun _ hk => hk.elim) ?aF ?aO ?aB ?aS ?aL ?_; (case aP => exact k60_mkM _ _ _ (⟨x9_2, (⟨#[49]⟩ : ByteArray)⟩ : S60)); (case aB => exact z10_); (case aF => exact (fun _ _ => trivial)); (case aO => exact z22_); (case aS => exact (below_size z10_)); (case aL => have := LMc15.out; omega); intro v276 w16 ho hb hg hat; rw [← Ny275.out] at ho; have n0_ := Aside0.mk (hb); have n1_ := Aside0.mk (ho); clear HB; clear HO_8; have HB := n0_; have HO277 := n1_; clear n0_ n1_; clear ho hb hg hat))
           go_roundg k2
           case measure => have := HJ3.out; have := HK2.out; omega
           case rel => exact ⟨(y275), (wrap64 (x9_2 + a2)), z25_, H', ⟨by have := HJ3.out; have := HK2.out; omega⟩, ⟨by (with_reducible repeat (first | apply Kd.R_alloc | apply Kd.R_drewN | apply Kd.R_drew)); first | exact HO277.out | (simp only [w64_m256]; exact HO277.out)⟩, ⟨by repeat (first | (with_reducible first | exact HB.out | apply below_alloc | apply pw_below_drewN | apply below_drew1) | exact HB.out)⟩⟩
          ·rw [if_neg c15] at H
           exact absurd H (by simp)
         ·rw [if_neg c14] at H
          have c14b0 : decide (x9_2 ≤ a1) = false := decide_eq_false c14
          clear c14
          simp only [Option.some.injEq, Prod.mk.injEq] at H
          obtain ⟨rfl, rfl⟩ := H
          go_wp2
          go_ret2
          exact ⟨_, z24_, by (with_reducible repeat (first | apply Kd.R_alloc | apply Kd.R_drewN | apply Kd.R_drew)); exact HO_8.out, z10_⟩
mutual
def metrolabref26_Uniform.j0 : Nat → Int → Int → Int → Bool → Option ((List (S60)) × Int)
 | 0, _, _, _, _ => none
 | k + 1, x0, x1, x2, x25 => if x25 = true then (some (([] : List (S60)), 2)) else (if x0 > x1 then (some (([] : List (S60)), 9)) else (if x2 = 0 then (none) else (if (wrap64 ((wrap64 (Int.tdiv (wrap64 (x1 - x0)) x2)) + 1)) > 4096 then (some (([] : List (S60)), 5)) else (metrolabref26_Uniform.l0 k x1 x2 ([] : List (S60)) x0))))
def metrolabref26_Uniform.l0 : Nat → Int → Int → List (S60) → Int → Option ((List (S60)) × Int)
 | 0, _, _, _, _ => none
 | k + 1, x1, x2, x8, x9 => if x9 ≤ x1 then (if x8.length < 5864062014805 then (metrolabref26_Uniform.l0 k x1 x2 (x8 ++ [(⟨x9, (⟨#[49]⟩ : ByteArray)⟩ : S60)]) (wrap64 (x9 + x2))) else (none)) else (some (x8, 0))
end
def metrolabref26_Uniform.f (k : Nat) (a0 : Int) (a1 : Int) (a2 : Int) : Option ((List (S60)) × Int) := (metrolabref26_Value.f a0).bind fun t278 => (if t278 = true then ((metrolabref26_Value.f a1).bind fun t279 => (if t279 = true then (if a2 < 1 then (metrolabref26_Uniform.j0 k a0 a1 a2 true) else (metrolabref26_Uniform.j0 k a0 a1 a2 (decide (a2 > 1048576)))) else (metrolabref26_Uniform.j0 k a0 a1 a2 true))) else (metrolabref26_Uniform.j0 k a0 a1 a2 true))
set_option maxHeartbeats 8000000 in
set_option maxRecDepth 100000 in
theorem metrolabref26_Uniform.calls (k : Nat) (a0 : Int) (a1 : Int) (a2 : Int) (r1 : List (S60)) (r2 : Int) (w : World) (h : metrolabref26_Uniform.f k a0 a1 a2 = some (r1, r2)) :
  Calls Tryz.prog 23 #[.int .i64 a0, .int .i64 a1, .int .i64 a2] w fun e w' => ∃ v0_ : Value, e = .returned (.tuple #[v0_, .int .i64 r2]) ∧ Kd.R k60 60 w' w.heap.size (fun _ => True) v0_ r1 ∧ Below w.heap.size w w' := by
 have hu60 := Tryz.underlying60
 have HB := Aside0.mk (Below.refl w.heap.size w)
 have H : ((metrolabref26_Value.f a0).bind fun t278 => (if t278 = true then ((metrolabref26_Value.f a1).bind fun t279 => (if t279 = true then (if a2 < 1 then (metrolabref26_Uniform.j0 k a0 a1 a2 true) else (metrolabref26_Uniform.j0 k a0 a1 a2 (decide (a2 > 1048576)))) else (metrolabref26_Uniform.j0 k a0 a1 a2 true))) else (metrolabref26_Uniform.j0 k a0 a1 a2 true))) = some (r1, r2) := h
 clear h
 have HC4 := Aside0.mk H
 clear H
 go_enter Tryz.func23, Tryz.ntmps23
 go_upto_region 1 with (fail)
 go_cut [25] (fun v25 wc => ∃ (kq : Nat) (x25_3 : Bool), v25 = .bool x25_3 ∧ Aside0 (metrolabref26_Uniform.j0 kq a0 a1 a2 x25_3 = some (r1, r2)) ∧ Aside0 (kq ≤ k) ∧ Aside0 (Below w.heap.size w wc))
 case first =>
  have H := HC4.out
  clear HC4
  obtain ⟨t278, A5, H⟩ := bindA H
  by_cases c6 : t278 = true
  ·subst c6
   rw [if_pos rfl] at H
   obtain ⟨t279, A7, H⟩ := bindA H
   by_cases c8 : t279 = true
   ·subst c8
    rw [if_pos rfl] at H
    by_cases c9 : a2 < 1
    ·rw [if_pos c9] at H
     have c9b0 : decide (a2 < 1) = true := decide_eq_true c9
     clear c9
     (first | rw [c9b0] | (simp only [i64_w, i32_w]; rw [c9b0]) | skip)
     have H' := Aside0.mk H
     clear H
     go_wp2_with (first | (refine gz (f := 53) rfl (some 11) rfl Tryz.func53 (metrolabref26_Value.calls a0 true _ A5.out) ?_; rintro w' ⟨nd, rfl⟩) | (go_at_call 53; (with_reducible refine (metrolabref26_Value.calls a1 true _ A7.out).mono ?_); rintro e w' ⟨rfl, ⟨nd, rfl⟩⟩))
     go_meet
     case rel => exact ⟨_, (true), z25_, H', ⟨by first | omega | exact Nat.le_refl _⟩, ⟨by repeat (first | (with_reducible first | exact HB.out | apply below_alloc | apply pw_below_drewN | apply below_drew1) | exact HB.out)⟩⟩
    ·rw [if_neg c9] at H
     have c9b0 : decide (a2 < 1) = false := decide_eq_false c9
     clear c9
     (first | rw [c9b0] | (simp only [i64_w, i32_w]; rw [c9b0]) | skip)
     have H' := Aside0.mk H
     clear H
     go_wp2_with (first | (refine gz (f := 53) rfl (some 11) rfl Tryz.func53 (metrolabref26_Value.calls a0 true _ A5.out) ?_; rintro w' ⟨nd, rfl⟩) | (go_at_call 53; (with_reducible refine (metrolabref26_Value.calls a1 true _ A7.out).mono ?_); rintro e w' ⟨rfl, ⟨nd, rfl⟩⟩))
     go_meet
     case rel => exact ⟨_, (decide (a2 > 1048576)), z25_, H', ⟨by first | omega | exact Nat.le_refl _⟩, ⟨by repeat (first | (with_reducible first | exact HB.out | apply below_alloc | apply pw_below_drewN | apply below_drew1) | exact HB.out)⟩⟩
   ·replace c8 := Bool.eq_false_iff.mpr c8
    subst c8
    rw [if_neg (show ¬ (false = true) by decide)] at H
    have H' := Aside0.mk H
    clear H
    go_wp2_with (first | (refine gz (f := 53) rfl (some 11) rfl Tryz.func53 (metrolabref26_Value.calls a0 true _ A5.out) ?_; rintro w' ⟨nd, rfl⟩) | (go_at_call 53; (with_reducible refine (metrolabref26_Value.calls a1 false _ A7.out).mono ?_); rintro e w' ⟨rfl, ⟨nd, rfl⟩⟩))
    go_meet
    case rel => exact ⟨_, (true), z25_, H', ⟨by first | omega | exact Nat.le_refl _⟩, ⟨by repeat (first | (with_reducible first | exact HB.out | apply below_alloc | apply pw_below_drewN | apply below_drew1) | exact HB.out)⟩⟩
  ·replace c6 := Bool.eq_false_iff.mpr c6
   subst c6
   rw [if_neg (show ¬ (false = true) by decide)] at H
   have H' := Aside0.mk H
   clear H
   go_wp2_with (first | (refine gz (f := 53) rfl (some 11) rfl Tryz.func53 (metrolabref26_Value.calls a0 false _ A5.out) ?_; rintro w' ⟨nd, rfl⟩))
   go_meet
   case rel => exact ⟨_, (true), z25_, H', ⟨by first | omega | exact Nat.le_refl _⟩, ⟨by repeat (first | (with_reducible first | exact HB.out | apply below_alloc | apply pw_below_drewN | apply below_drew1) | exact HB.out)⟩⟩
 case rest =>
  clear HC4
  try clear c2
  try clear p2
  try clear c5
  try clear c6
  try clear c8
  try clear c9
  try clear c9b0
  obtain ⟨kq, x25_3, rfl, HA, HJ3, HB⟩ := hcut
  cases kq with
  | zero => exact absurd HA.out (by simp [metrolabref26_Uniform.j0])
  | succ kj3 =>
   have H := HA.out
   clear HA
   simp only [metrolabref26_Uniform.j0] at H
   by_cases c10 : x25_3 = true
   ·subst c10
    rw [if_pos rfl] at H
    simp only [Option.some.injEq, Prod.mk.injEq] at H
    obtain ⟨rfl, rfl⟩ := H
    go_wp2
    go_ret2
    exact ⟨_, z24_, by first | exact Kd.R_nil _ _ _ _ _ | exact Kd.N_nil _ _ _ _ _ | exact Kd.V_nil _ _ _ _ _ | exact Kd.Q_nil _ _ _ _ _ | exact Kd.S_nil _ _ _ _ _, z10_⟩
   ·replace c10 := Bool.eq_false_iff.mpr c10
    subst c10
    rw [if_neg (show ¬ (false = true) by decide)] at H
    by_cases c11 : a0 > a1
    ·rw [if_pos c11] at H
     have c11b0 : decide (a1 < a0) = true := decide_eq_true c11
     clear c11
     simp only [Option.some.injEq, Prod.mk.injEq] at H
     obtain ⟨rfl, rfl⟩ := H
     go_wp2
     go_ret2
     exact ⟨_, z24_, by first | exact Kd.R_nil _ _ _ _ _ | exact Kd.N_nil _ _ _ _ _ | exact Kd.V_nil _ _ _ _ _ | exact Kd.Q_nil _ _ _ _ _ | exact Kd.S_nil _ _ _ _ _, z10_⟩
    ·rw [if_neg c11] at H
     have c11b0 : decide (a1 < a0) = false := decide_eq_false c11
     clear c11
     by_cases c12 : a2 = 0
     ·rw [if_pos c12] at H
      exact absurd H (by simp)
     ·rw [if_neg c12] at H
      have c12b0 := beq_eq_false_iff_ne.mpr c12
      have c12b1 := bne_iff_ne.mpr c12
      by_cases c13 : (wrap64 ((wrap64 (Int.tdiv (wrap64 (a1 - a0)) a2)) + 1)) > 4096
      ·rw [if_pos c13] at H
       have c13b0 : decide (4096 < (wrap64 ((wrap64 (Int.tdiv (wrap64 (a1 - a0)) a2)) + 1))) = true := decide_eq_true c13
       clear c13
       simp only [Option.some.injEq, Prod.mk.injEq] at H
       obtain ⟨rfl, rfl⟩ := H
       go_wp2
       go_ret2
       exact ⟨_, z24_, by first | exact Kd.R_nil _ _ _ _ _ | exact Kd.N_nil _ _ _ _ _ | exact Kd.V_nil _ _ _ _ _ | exact Kd.Q_nil _ _ _ _ _ | exact Kd.S_nil _ _ _ _ _, z10_⟩
      ·rw [if_neg c13] at H
       have c13b0 : decide (4096 < (wrap64 ((wrap64 (Int.tdiv (wrap64 (a1 - a0)) a2)) + 1))) = false := decide_eq_false c13
       clear c13
       have H' := Aside0.mk H
       clear H
       go_wp2
       go_loopg [8, 9] kj3 (fun kq v8 v9 w' => ∃ (x8_2 : List (S60)) (x9_2 : Int), v9 = .int .i64 x9_2 ∧ Aside0 (metrolabref26_Uniform.l0 kq a1 a2 x8_2 x9_2 = some (r1, r2)) ∧ Aside0 (kq ≤ kj3) ∧ Aside0 (Kd.R k60 60 w' w.heap.size (fun _ => True) v8 x8_2) ∧ Aside0 (Below w.heap.size w w'))
       case atStart => exact ⟨(([] : List (S60))), (a0), z25_, H', ⟨Nat.le_refl _⟩, ⟨by first | exact Kd.R_nil _ _ _ _ _ | exact Kd.N_nil _ _ _ _ _ | exact Kd.V_nil _ _ _ _ _ | exact Kd.Q_nil _ _ _ _ _ | exact Kd.S_nil _ _ _ _ _⟩, ⟨by repeat (first | (with_reducible first | exact HB.out | apply below_alloc | apply pw_below_drewN | apply below_drew1) | exact HB.out)⟩⟩
       case round =>
        clear H'
        try clear c1
        try clear c2
        try clear p2
        try clear c5
        try clear c6
        try clear p6
        try clear c8
        try clear c9
        try clear c9b0
        try clear c10
        try clear c11
        try clear c11b0
        try clear c12
        try clear c12b0
        try clear c12b1
        try clear c13
        try clear c13b0
        try clear p2
        obtain ⟨x8_2, x9_2, rfl, HA, HK2, HO_8, HB⟩ := hrel
        cases gk with
        | zero => exact absurd HA.out (by simp [metrolabref26_Uniform.l0])
        | succ k2 =>
         have H := HA.out
         clear HA
         simp only [metrolabref26_Uniform.l0] at H
         by_cases c14 : x9_2 ≤ a1
         ·rw [if_pos c14] at H
          have c14b0 : decide (x9_2 ≤ a1) = true := decide_eq_true c14
          clear c14
          by_cases c15 : x8_2.length < 5864062014805
          ·rw [if_pos c15] at H
           have LMc15 := Aside0.mk c15
           clear c15
           obtain ⟨y280, hy280⟩ : ∃ y_ : List (S60), y_ = (x8_2 ++ [(⟨x9_2, (⟨#[49]⟩ : ByteArray)⟩ : S60)]) := ⟨_, rfl⟩
           replace H : (metrolabref26_Uniform.l0 k2 a1 a2 y280 (wrap64 (x9_2 + a2))) = some (r1, r2) := by first | (rw [hy280]; with_reducible exact H) | (have H2_ := (Option.bind_some _ _).symm.trans H; rw [hy280]; with_reducible exact H2_) | (have H2_ := (Option.bind_some _ _).symm.trans H; with_reducible exact H2_) | with_reducible exact H | (rw [hy280]; exact H) | exact H
           have Ny280 := Aside0.mk hy280
           clear hy280
           have H' := Aside0.mk H
           clear H
           go_wp2_with (first | ((with_reducible refine gate_builtin (b := .append) (xs := #[.tmp 43, .tmp 46]) rfl ?_); at_builtin; refine Kd.R_append k60 (w0 := w) w.heap.size rfl (.tmp 43) (.tmp 46) 22 60 (.agg #[(.int .i64 0), (.string ⟨#[]⟩)]) 24 rfl Tryz.underlying22 info60 rfl (by decide) (by omega) u8 x8_2 (⟨x9_2, (⟨#[49]⟩ : ByteArray)⟩ : S60) [.int .i64 x9_2, .string (⟨#[49]⟩ : ByteArray)] (fun _ => True) (fun _ => False) rfl rfl ?aP (fun _ hk => hk.elim) ?aF ?aO ?aB ?aS ?aL ?_; (case aP => exact k60_mkM _ _ _ (⟨x9_2, (⟨#[49]⟩ : ByteArray)⟩ : S60)); (case aB => exact z10_); (case aF => exact (fun _ _ => trivial)); (case aO => exact z22_); (case aS => exact (below_size z10_)); (case aL => have := LMc15.out; omega); intro v281 w16 ho hb hg hat; rw [← Ny280.out] at ho; have n0_ := Aside0.mk (hb); have n1_ := Aside0.mk (ho); clear HB; clear HO_8; have HB := n0_; have HO282 := n1_; clear n0_ n1_; clear ho hb hg hat))
           go_roundg k2
           case measure => have := HJ3.out; have := HK2.out; omega
           case rel => exact ⟨(y280), (wrap64 (x9_2 + a2)), z25_, H', ⟨by have := HJ3.out; have := HK2.out; omega⟩, ⟨by (with_reducible repeat (first | apply Kd.R_alloc | apply Kd.R_drewN | apply Kd.R_drew)); first | exact HO282.out | (simp only [w64_m256]; exact HO282.out)⟩, ⟨by repeat (first | (with_reducible first | exact HB.out | apply below_alloc | apply pw_below_drewN | apply below_drew1) | exact HB.out)⟩⟩
          ·rw [if_neg c15] at H
           exact absurd H (by simp)
         ·rw [if_neg c14] at H
          have c14b0 : decide (x9_2 ≤ a1) = false := decide_eq_false c14
          clear c14
          simp only [Option.some.injEq, Prod.mk.injEq] at H
          obtain ⟨rfl, rfl⟩ := H
          go_wp2
          go_ret2
          exact ⟨_, z24_, by (with_reducible repeat (first | apply Kd.R_alloc | apply Kd.R_drewN | apply Kd.R_drew)); exact HO_8.out, z10_⟩
def metrolabref26_Power.l0 : Nat → Int → Int → ByteArray → Int → Option (ByteArray)
 | 0, _, _, _, _ => none
 | k + 1, x0, x1, x5, x6 => if x6 < x1 then ((metrolabref01_Of.f x0).bind fun t283 => ((metrolabref01_Times.f x5 t283).bind fun t284 => (metrolabref26_Power.l0 k x0 x1 t284 (wrap64 (x6 + 1))))) else (some x5)
def metrolabref26_Power.f (k : Nat) (a0 : Int) (a1 : Int) : Option (ByteArray) := metrolabref26_Power.l0 k a0 a1 (⟨#[49]⟩ : ByteArray) 0
set_option maxHeartbeats 8000000 in
set_option maxRecDepth 100000 in
theorem metrolabref26_Power.calls (k : Nat) (a0 : Int) (a1 : Int) (r : ByteArray) (w : World) (h : metrolabref26_Power.f k a0 a1 = some r) :
  Calls Tryz.prog 99 #[.int .i64 a0, .int .i64 a1] w fun e w' => e = .returned (.string r) ∧ Below w.heap.size w w' := by
 have HB := Aside0.mk (Below.refl w.heap.size w)
 have H : (metrolabref26_Power.l0 k a0 a1 (⟨#[49]⟩ : ByteArray) 0) = some r := h
 clear h
 have H' := Aside0.mk H
 clear H
 go_enter Tryz.func99, Tryz.ntmps99
 go_wp2
 go_loopg [5, 6] k (fun kq v5 v6 w' => ∃ (x5_1 : ByteArray) (x6_1 : Int), v5 = .string x5_1 ∧ v6 = .int .i64 x6_1 ∧ Aside0 (metrolabref26_Power.l0 kq a0 a1 x5_1 x6_1 = some r) ∧ Aside0 (kq ≤ k) ∧ Aside0 (Below w.heap.size w w'))
 case atStart => exact ⟨((⟨#[49]⟩ : ByteArray)), (0), z25_, z25_, H', ⟨Nat.le_refl _⟩, ⟨by repeat (first | (with_reducible first | exact HB.out | apply below_alloc | apply pw_below_drewN | apply below_drew1) | exact HB.out)⟩⟩
 case round =>
  clear H'
  try clear p2
  obtain ⟨x5_1, x6_1, rfl, rfl, HA, HK1, HB⟩ := hrel
  cases gk with
  | zero => exact absurd HA.out (by simp [metrolabref26_Power.l0])
  | succ k1 =>
   have H := HA.out
   clear HA
   simp only [metrolabref26_Power.l0] at H
   by_cases c3 : x6_1 < a1
   ·rw [if_pos c3] at H
    have c3b0 : decide (x6_1 < a1) = true := decide_eq_true c3
    clear c3
    obtain ⟨t283, A4, H⟩ := bindA H
    obtain ⟨t284, A5, H⟩ := bindA H
    have H' := Aside0.mk H
    clear H
    go_wp2_with (first | (refine gy (f := 106) rfl (some 14) rfl Tryz.func106 (metrolabref01_Of.calls a0 t283 _ A4.out) z10_ ?_; clear HB; intro w6 HB) | (refine gy (f := 97) rfl (some 15) rfl Tryz.func97 (metrolabref01_Times.calls x5_1 t283 t284 _ A5.out) z10_ ?_; clear HB; intro w7 HB))
    go_roundg k1
    case measure => have := HK1.out; omega
    case rel => exact ⟨(t284), (wrap64 (x6_1 + 1)), z25_, z25_, H', ⟨by have := HK1.out; omega⟩, ⟨by repeat (first | (with_reducible first | exact HB.out | apply below_alloc | apply pw_below_drewN | apply below_drew1) | exact HB.out)⟩⟩
   ·rw [if_neg c3] at H
    have c3b0 : decide (x6_1 < a1) = false := decide_eq_false c3
    clear c3
    obtain rfl := Option.some.inj H
    go_wp2
    go_ret
    exact ⟨z24_, z10_⟩
end Go.Proofs.YtkdpcgmnkifbbaaGreatDoor.D
end
