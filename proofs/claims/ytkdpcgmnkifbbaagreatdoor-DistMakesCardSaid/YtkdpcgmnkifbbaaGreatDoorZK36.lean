/- Joined by a program of this session out of its texts, with only what the last theorem needs: Ps. No conditions but those stated. -/
import Derived.Test.YtkdpcgmnkifbbaaGreatDoorZK34
import Derived.Test.YtkdpcgmnkifbbaaGreatDoorZK35
set_option linter.unusedVariables false
set_option linter.unusedSimpArgs false
namespace Go.Proofs.YtkdpcgmnkifbbaaGreatDoorW.PrintMore
end Go.Proofs.YtkdpcgmnkifbbaaGreatDoorW.PrintMore
namespace Go.Proofs.YtkdpcgmnkifbbaaGreatDoorW.PrintWords
end Go.Proofs.YtkdpcgmnkifbbaaGreatDoorW.PrintWords
namespace Go.Proofs.YtkdpcgmnkifbbaaGreatDoor
open Go.RowKit Go.Proofs.YtkdpcgmnkifbbaaGreatDoorW.PrintWords Go.Proofs.YtkdpcgmnkifbbaaGreatDoorW.PrintMore
open D (S60 prs)
theorem Runs.ite {α : Type} {c : Prop} [Decidable c] {f g : Nat → Option α} {r : α} (h1 : c → Runs f r) (h2 : ¬ c → Runs g r) : Runs (fun k => if c then f k else g k) r := by
 by_cases h : c
 ·exact Runs.pos h (h1 h)
 ·exact Runs.neg h (h2 h)
theorem unif_loop (hi st : Int) (h0 : 1 ≤ st ∧ st ≤ 1048576) (hh : -1048576 ≤ hi ∧ hi ≤ 1048576) (d : Nat) : ∀ (acc : List S60) (v : Int), hi < v + d * st → acc.length + d ≤ 4096 → -1048576 ≤ v → v ≤ hi + st →
  ∃ l : List S60, l.length ≤ 5000 ∧ Runs (fun k => D.dist_Uniform.l0 k hi st acc v) (l, 0) ∧ Runs (fun k => D.metrolabref26_Uniform.l0 k hi st acc v) (l, 0) := by
 induction d with
 | zero =>
  intro acc v h1 h2 h3 h4
  refine ⟨acc, by omega, Runs.succ (Runs.pure _) fun k => ?_, Runs.succ (Runs.pure _) fun k => ?_⟩
  ·rw [D.dist_Uniform.l0, if_neg (by simp at h1; omega)]
  ·rw [D.metrolabref26_Uniform.l0, if_neg (by simp at h1; omega)]
 | succ d ih =>
  intro acc v h1 h2 h3 h4
  by_cases hv : v ≤ hi
  ·have w1 : wrap64 (v + st) = v + st := IntWalk.wrap64_in _ (by omega)
   have e : ((d + 1 : Nat) : Int) * st = d * st + st := by rw [Int.natCast_add, Int.add_mul]; simp
   rw [e] at h1
   obtain ⟨l, hl, r1, r2⟩ := ih (acc ++ [(⟨v, (⟨#[49]⟩ : ByteArray)⟩ : S60)]) (v + st) (by omega) (by rw [List.length_append, List.length_singleton]; omega) (by omega) (by omega)
   refine ⟨l, hl, Runs.succ r1 fun k => ?_, Runs.succ r2 fun k => ?_⟩
   ·rw [D.dist_Uniform.l0, if_pos hv, if_pos (by omega), w1]
   ·rw [D.metrolabref26_Uniform.l0, if_pos hv, if_pos (by omega), w1]
  ·refine ⟨acc, by omega, Runs.succ (Runs.pure _) fun k => ?_, Runs.succ (Runs.pure _) fun k => ?_⟩
   ·rw [D.dist_Uniform.l0, if_neg hv]
   ·rw [D.metrolabref26_Uniform.l0, if_neg hv]
theorem unif_j (lo hi st : Int) (b : Bool) (hb : b = false → (-1048576 ≤ lo ∧ lo ≤ 1048576) ∧ (-1048576 ≤ hi ∧ hi ≤ 1048576) ∧ 1 ≤ st ∧ st ≤ 1048576) :
  ∃ r : List S60 × Int, r.1.length ≤ 5000 ∧ Runs (fun k => D.dist_Uniform.j0 k lo hi st b) r ∧ Runs (fun k => D.metrolabref26_Uniform.j0 k lo hi st b) r := by
 cases b
 ·obtain ⟨h1, h2, h3⟩ := hb rfl
  by_cases h4 : lo > hi
  ·refine ⟨([], 9), by simp, Runs.succ (Runs.pure _) fun k => ?_, Runs.succ (Runs.pure _) fun k => ?_⟩
   ·rw [D.dist_Uniform.j0, if_neg (by decide), if_pos h4]
   ·rw [D.metrolabref26_Uniform.j0, if_neg (by decide), if_pos h4]
  ·have w1 : wrap64 (hi - lo) = hi - lo := IntWalk.wrap64_in _ (by omega)
   have e1 : Int.tdiv (hi - lo) st = (hi - lo) / st := Int.tdiv_eq_ediv_of_nonneg (by omega)
   have e2 : 0 ≤ (hi - lo) / st := Int.ediv_nonneg (by omega) (by omega)
   have e3 : (hi - lo) / st ≤ hi - lo := Int.ediv_le_self _ (by omega)
   have e4 : hi - lo < ((hi - lo) / st + 1) * st := Int.lt_ediv_add_one_mul_self _ (by omega)
   have w2 : wrap64 ((wrap64 (Int.tdiv (wrap64 (hi - lo)) st)) + 1) = (hi - lo) / st + 1 := by
    rw [w1, e1, IntWalk.wrap64_in ((hi - lo) / st) (by omega), IntWalk.wrap64_in _ (by omega)]
   generalize (hi - lo) / st = q at *
   by_cases h5 : q + 1 > 4096
   ·refine ⟨([], 5), by simp, Runs.succ (Runs.pure _) fun k => ?_, Runs.succ (Runs.pure _) fun k => ?_⟩
    ·rw [D.dist_Uniform.j0, if_neg (by decide), if_neg h4, if_neg (by omega), w2, if_pos h5]
    ·rw [D.metrolabref26_Uniform.j0, if_neg (by decide), if_neg h4, if_neg (by omega), w2, if_pos h5]
   ·obtain ⟨n, hn⟩ : ∃ n : Nat, q + 1 = n := ⟨(q + 1).toNat, by omega⟩
    rw [hn] at e4
    obtain ⟨l, hl, r1, r2⟩ := unif_loop hi st h3 h2 n [] lo (by omega) (by simp; omega) (by omega) (by omega)
    refine ⟨(l, 0), hl, Runs.succ r1 fun k => ?_, Runs.succ r2 fun k => ?_⟩
    ·rw [D.dist_Uniform.j0, if_neg (by decide), if_neg h4, if_neg (by omega), w2, if_neg h5]
    ·rw [D.metrolabref26_Uniform.j0, if_neg (by decide), if_neg h4, if_neg (by omega), w2, if_neg h5]
 ·refine ⟨([], 2), by simp, Runs.succ (Runs.pure _) fun k => ?_, Runs.succ (Runs.pure _) fun k => ?_⟩
  ·rw [D.dist_Uniform.j0, if_pos rfl]
  ·rw [D.metrolabref26_Uniform.j0, if_pos rfl]
theorem unif_run (lo hi st : Int) : ∃ r : List S60 × Int, r.1.length ≤ 5000 ∧ Runs (fun k => D.dist_Uniform.f k lo hi st) r ∧ Runs (fun k => D.metrolabref26_Uniform.f k lo hi st) r := by
 unfold D.dist_Uniform.f D.metrolabref26_Uniform.f
 rw [dwithin_f, dwithin_f, value_f, value_f]
 simp only [Option.bind_some]
 obtain ⟨r, hr, a, b⟩ := unif_j lo hi st true (fun h => by cases h)
 by_cases h1 : -1048576 ≤ lo ∧ lo ≤ 1048576
 ·by_cases h2 : -1048576 ≤ hi ∧ hi ≤ 1048576
  ·by_cases h3 : st < 1
   ·exact ⟨r, hr, Runs.pos (decide_eq_true h1) (Runs.pos (decide_eq_true h2) (Runs.pos h3 a)), Runs.pos (decide_eq_true h1) (Runs.pos (decide_eq_true h2) (Runs.pos h3 b))⟩
   ·obtain ⟨r, hr, a, b⟩ := unif_j lo hi st (decide (st > 1048576)) (fun h => ⟨h1, h2, by omega, by have := of_decide_eq_false h; omega⟩)
    exact ⟨r, hr, Runs.pos (decide_eq_true h1) (Runs.pos (decide_eq_true h2) (Runs.neg h3 a)), Runs.pos (decide_eq_true h1) (Runs.pos (decide_eq_true h2) (Runs.neg h3 b))⟩
  ·exact ⟨r, hr, Runs.pos (decide_eq_true h1) (Runs.neg (by rw [decide_eq_false h2]; decide) a), Runs.pos (decide_eq_true h1) (Runs.neg (by rw [decide_eq_false h2]; decide) b)⟩
 ·exact ⟨r, hr, Runs.neg (by rw [decide_eq_false h1]; decide) a, Runs.neg (by rw [decide_eq_false h1]; decide) b⟩
theorem times_itx {u v : Int} {e : Nat} (hu : u.natAbs < 10 ^ e) (hv : v.natAbs < 10 ^ e) (h0 : 0 < e) (hn : e ≤ 30000) : D.metrolabref01_Times.f (itx u) (itx v) = some (itx (u * v)) := by
 unfold D.metrolabref01_Times.f
 rw [if_pos ⟨okI_bd hu h0 hn, okI_bd hv h0 hn⟩, ival_itx, ival_itx]
theorem rof_f {n : Int} (h : -9223372036854775808 < n ∧ n < 9223372036854775808) : D.metrolabref01_Of.f n = some (itx n) := by
 unfold D.metrolabref01_Of.f; rw [if_pos h]
theorem power_l0 (a : Int) (n : Nat) (h0 : 0 ≤ a) (h1 : a ≤ 1048576) (hn : n ≤ 30) (d i : Nat) (hd : i + d = n) : Runs (fun k => D.metrolabref26_Power.l0 k a n (itx (a ^ i)) i) (itx (a ^ n)) := by
 induction d generalizing i with
 | zero =>
  have hi : i = n := by omega
  subst hi
  refine Runs.succ (Runs.pure _) fun k => ?_
  rw [D.metrolabref26_Power.l0, if_neg (by omega)]
 | succ d ih =>
  have hnx := ih (i + 1) (by omega)
  have ha : a.natAbs < 10 ^ 200 := Nat.lt_of_lt_of_le (show a.natAbs < 10 ^ 7 by omega) (Nat.pow_le_pow_right (by decide) (by decide))
  have hm := times_itx (pow_bd h0 h1 (j := i) (by omega)) ha (by decide) (by decide)
  rw [← Int.pow_succ] at hm
  refine Runs.succ hnx fun k => ?_
  rw [D.metrolabref26_Power.l0, if_pos (by omega), rof_f (by omega), Option.bind_some, hm, Option.bind_some, IntWalk.wrap64_in _ (by omega)]; rfl
theorem power_run (a : Int) (n : Nat) (h0 : 0 ≤ a) (h1 : a ≤ 1048576) (hn : n ≤ 30) : Runs (fun k => D.metrolabref26_Power.f k a n) (itx (a ^ n)) := by
 have := power_l0 a n h0 h1 hn n 0 (by omega)
 rw [Int.pow_zero, ← one_text] at this
 exact this
theorem binw_lt (n : Nat) (p r : Int) (hn : n ≤ 30) (hp0 : 0 ≤ p) (hp1 : p ≤ 1048576) (hr0 : 0 ≤ r) (hr1 : r ≤ 1048576) (k : Nat) (hk : k ≤ n) : (binw n p r k).natAbs < 10 ^ 600 := by
 have hch : (((ch n k : Nat) : Int)).natAbs < 10 ^ 200 := by
  rw [Int.natAbs_natCast]; exact Nat.lt_of_le_of_lt (ch_small hn) (by decide)
 have b1 := pow_bd hp0 hp1 (j := k) (by omega)
 have b2 := pow_bd hr0 hr1 (j := n - k) (by omega)
 have h2 : (((ch n k : Nat) : Int) * p ^ k).natAbs < 10 ^ 400 := mul_lt_pow2 (c := 400) rfl hch b1
 have h3 : (((ch n k : Nat) : Int) * p ^ k * r ^ (n - k)).natAbs < 10 ^ 600 := mul_lt_pow2 (c := 600) rfl h2 b2
 exact h3
theorem binl_chk (n : Nat) (p r : Int) (hn : n ≤ 30) (hp0 : 0 ≤ p) (hp1 : p ≤ 1048576) (hr0 : 0 ≤ r) (hr1 : r ≤ 1048576) : ∀ k, k ≤ n + 1 → ∀ x ∈ binl n p r k, chk x.f1 = 0 ∧ x.f1.size ≤ 5000
 | 0, _, x, hx => by simp [binl] at hx
 | k + 1, hk, x, hx => by
  unfold binl at hx
  have ih := binl_chk n p r hn hp0 hp1 hr0 hr1 k (by omega)
  split at hx
  ·exact ih x hx
  ·rcases List.mem_append.1 hx with hx | hx
   ·exact ih x hx
   ·rw [List.mem_singleton.1 hx]
    have hb := binw_lt n p r hn hp0 hp1 hr0 hr1 k (by omega)
    have hf : fits (binw n p r k) := fits_exp hb (by decide)
    refine ⟨?_, ?_⟩
    ·show chk (itx _) = 0
     rw [chk_itx, if_pos hf]
    ·show (itx _).size ≤ 5000
     have h1 := itx_size_dtx (binw n p r k)
     have h2 := size_of_lt hb (by decide)
     omega
theorem trials_l0 (n : Nat) (p q : Int) (hn : n ≤ 30) (hq : q ≤ 1048576) (hp : 0 ≤ p) (hpq : p ≤ q) (d i : Nat) (hd : i + d = n + 1) :
  Runs (fun k => D.metrolabref26_Trials.l0 k n p q (binl n p (q - p) i) i) (binl n p (q - p) (n + 1)) := by
 induction d generalizing i with
 | zero =>
  have hi : i = n + 1 := by omega
  subst hi
  refine Runs.succ (Runs.pure _) fun k => ?_
  rw [D.metrolabref26_Trials.l0, if_neg (by omega)]
 | succ d ih =>
  have hin : i ≤ n := by omega
  have hnx := ih (i + 1) (by omega)
  have hch : (((ch n i : Nat) : Int)).natAbs < 10 ^ 200 := by
   rw [Int.natAbs_natCast]; exact Nat.lt_of_le_of_lt (ch_small hn) (by decide)
  have c1 : D.metrolabref01_Chosen.f n i = some (itx (ch n i : Nat)) := by
   unfold D.metrolabref01_Chosen.f
   rw [if_pos ⟨by omega, by omega, by omega⟩, Int.toNat_natCast, Int.toNat_natCast]
  have p1 := power_run p i hp (by omega) (by omega)
  have p2 := power_run (q - p) (n - i) (by omega) (by omega) (by omega)
  have hb1 := pow_bd hp (show p ≤ 1048576 by omega) (j := i) (by omega)
  have hb2 := pow_bd (show 0 ≤ q - p by omega) (show q - p ≤ 1048576 by omega) (j := n - i) (by omega)
  have t1 := times_itx hb1 hb2 (by decide) (by decide)
  have t2 : D.metrolabref01_Times.f (itx (ch n i : Nat)) (itx (p ^ i * (q - p) ^ (n - i))) = some (itx (((ch n i : Nat) : Int) * (p ^ i * (q - p) ^ (n - i)))) := by
   have hb3 : (p ^ i * (q - p) ^ (n - i)).natAbs < 10 ^ 400 := mul_lt_pow2 (c := 400) rfl hb1 hb2
   exact times_itx (pw10 hch (show 200 ≤ 400 by decide)) hb3 (by decide) (by decide)
  clear hch hb1 hb2
  have w0 : wrap64 (q - p) = q - p := IntWalk.wrap64_in _ (by omega)
  have w1 : wrap64 ((n : Int) - (i : Int)) = ((n - i : Nat) : Int) := by rw [IntWalk.wrap64_in _ (by omega)]; omega
  have w2 : wrap64 ((i : Int) + 1) = ((i + 1 : Nat) : Int) := by rw [IntWalk.wrap64_in _ (by omega)]; omega
  have hbl := binl_len n p (q - p) i
  have e : ((ch n i : Nat) : Int) * (p ^ i * (q - p) ^ (n - i)) = binw n p (q - p) i := by unfold binw; rw [Int.mul_assoc]
  rw [e] at t2
  refine Runs.succ (f := fun k => (D.metrolabref26_Power.f k p i).bind fun t => ((D.metrolabref26_Power.f k (q - p) ((n - i : Nat) : Int)).bind fun u => ((D.metrolabref01_Times.f t u).bind fun v => ((D.metrolabref01_Times.f (itx (ch n i : Nat)) v).bind fun x => (if x.toList = ([48] : List UInt8) then (D.metrolabref26_Trials.l0 k n p q (binl n p (q - p) i) ((i + 1 : Nat) : Int)) else (if (binl n p (q - p) i).length < 5864062014805 then (D.metrolabref26_Trials.l0 k n p q (binl n p (q - p) i ++ [(⟨(i : Int), x⟩ : S60)]) ((i + 1 : Nat) : Int)) else (none))))))) (Runs.bind p1 (Runs.bind p2 ?_)) fun k => ?_
  ·rw [t1]
   simp only [Option.bind_some, t2]
   simp only [itx_zero_list]
   unfold binl at hnx
   by_cases h0 : binw n p (q - p) i = 0
   ·rw [if_pos h0] at hnx
    exact Runs.pos h0 hnx
   ·rw [if_neg h0] at hnx
    exact Runs.neg h0 (Runs.pos (by omega) hnx)
  ·rw [D.metrolabref26_Trials.l0, if_pos (by omega), c1, Option.bind_some, w0, w1, w2]
theorem rbin_l0 (l : List S60) (hl : l.length ≤ 4096) (hc : ∀ x ∈ l, chk x.f1 = 0 ∧ x.f1.size ≤ 5000) (d i : Nat) (hd : i + d = l.length) : Runs (fun k => D.metrolabref26_Binomial.l0 k l i) (l, 0) := by
 induction d generalizing i with
 | zero =>
  refine Runs.succ (Runs.pure _) fun k => ?_
  rw [D.metrolabref26_Binomial.l0, if_neg (by omega)]
 | succ d ih =>
  have hil : i < l.length := by omega
  have hg := prs_get l i hil
  have h1 := hc _ (List.getElem_mem hil)
  have hck : D.metrolabref01_Check.f l[i].f1 = some 0 := by
   unfold D.metrolabref01_Check.f; rw [if_pos (by omega), h1.1]
  refine Runs.succ (ih (i + 1) (by omega)) fun k => ?_
  rw [D.metrolabref26_Binomial.l0, if_pos (by omega), if_pos (by omega), hg, hck, Option.bind_some, if_pos rfl, IntWalk.wrap64_in _ (by omega)]; rfl
theorem rbin_run (n : Nat) (p q : Int) (hn : n ≤ 30) (hq : 1 ≤ q) (hq1 : q ≤ 1048576) (hp : 0 ≤ p) (hpq : p ≤ q) : Runs (fun k => D.metrolabref26_Binomial.f k n p q) (binl n p (q - p) (n + 1), 0) := by
 have h1 := trials_l0 n p q hn hq1 hp hpq (n + 1) 0 (by omega)
 have hlen := binl_len n p (q - p) (n + 1)
 have h2 := rbin_l0 (binl n p (q - p) (n + 1)) (by omega) (binl_chk n p (q - p) hn hp (by omega) (by omega) (by omega) (n + 1) (Nat.le_refl _)) _ 0 (by rw [Nat.zero_add])
 refine Runs.congr (Runs.succ (g := fun k => D.metrolabref26_Binomial.j0 k n p q false) (Runs.bind (f := fun k t => D.metrolabref26_Binomial.l0 k t 0) (g := fun k => D.metrolabref26_Trials.f k n p q) h1 h2) fun k => ?_) fun k => ?_
 ·rw [D.metrolabref26_Binomial.j0, if_neg (by decide)]
 ·unfold D.metrolabref26_Binomial.f
  rw [if_neg (by omega), if_neg (by omega), if_neg (by omega), if_neg (by omega), if_neg (by omega), decide_eq_false (by omega)]
theorem bin_bad (a b c : Int) (h : a < 0 ∨ a > 256 ∨ c < 1 ∨ c > 1048576 ∨ b < 0 ∨ b > c) : Runs (fun k => D.dist_Binomial.f k a b c) ([], 2) ∧ Runs (fun k => D.metrolabref26_Binomial.f k a b c) ([], 2) := by
 have h1 : ∀ t, t = true → Runs (fun k => D.dist_Binomial.j0 k a b c t) ([], 2) := fun t ht => Runs.succ (Runs.pure _) fun k => by rw [ht, D.dist_Binomial.j0, if_pos rfl]
 have h2 : ∀ t, t = true → Runs (fun k => D.metrolabref26_Binomial.j0 k a b c t) ([], 2) := fun t ht => Runs.succ (Runs.pure _) fun k => by rw [ht, D.metrolabref26_Binomial.j0, if_pos rfl]
 unfold D.dist_Binomial.f D.metrolabref26_Binomial.f
 constructor
 ·exact Runs.ite (fun _ => h1 _ rfl) fun _ => Runs.ite (fun _ => h1 _ rfl) fun _ => Runs.ite (fun _ => h1 _ rfl) fun _ => Runs.ite (fun _ => h1 _ rfl) fun _ => Runs.ite (fun _ => h1 _ rfl) fun _ => h1 _ (decide_eq_true (by omega))
 ·exact Runs.ite (fun _ => h2 _ rfl) fun _ => Runs.ite (fun _ => h2 _ rfl) fun _ => Runs.ite (fun _ => h2 _ rfl) fun _ => Runs.ite (fun _ => h2 _ rfl) fun _ => Runs.ite (fun _ => h2 _ rfl) fun _ => h2 _ (decide_eq_true (by omega))
theorem bin_both (a b c : Int) (h : ¬ (30 < a ∧ a ≤ 256)) : ∃ r : List S60 × Int, r.1.length ≤ 5000 ∧ Runs (fun k => D.dist_Binomial.f k a b c) r ∧ Runs (fun k => D.metrolabref26_Binomial.f k a b c) r := by
 by_cases hb : a < 0 ∨ a > 256 ∨ c < 1 ∨ c > 1048576 ∨ b < 0 ∨ b > c
 ·exact ⟨([], 2), by simp, (bin_bad a b c hb).1, (bin_bad a b c hb).2⟩
 ·obtain ⟨n, rfl⟩ : ∃ n : Nat, a = n := ⟨a.toNat, by omega⟩
  have := binl_len n b (c - b) (n + 1)
  exact ⟨_, by show (binl n b (c - b) (n + 1)).length ≤ 5000; omega, dbin_run n b c (by omega) (by omega) (by omega) (by omega) (by omega), rbin_run n b c (by omega) (by omega) (by omega) (by omega) (by omega)⟩
theorem makes_j (a b c : Int) (t : Bool) (ht : t = false → ¬ (30 < a ∧ a ≤ 256)) : Runs (fun k => D.metrolablaw26_DistMakes.j0 k a b c t) true := by
 cases t
 ·obtain ⟨u, hu, u1, u2⟩ := unif_run a b c
  obtain ⟨v, hv, v1, v2⟩ := bin_both a b c (ht rfl)
  refine Runs.succ (Runs.bind (f := fun k bt299 => ((D.metrolabref26_Uniform.f k a b c).bind fun bt303 => ((D.dist_Binomial.f k a b c).bind fun bt307 => ((D.metrolabref26_Binomial.f k a b c).bind fun bt311 => ((D.metrolablaw26_awake.f k).bind fun t315 => (if t315 = true then ((D.metrolabref26_Same.f k bt299.1 bt303.1).bind fun t316 => (if t316 = true then (if bt299.2 = bt303.2 then ((D.metrolabref26_Same.f k bt307.1 bt311.1).bind fun t317 => (if t317 = true then (some (bt307.2 == bt311.2)) else (some false))) else (some false)) else (some false))) else (some false))))))) u1 (Runs.bind u2 (Runs.bind v1 (Runs.bind v2 (Runs.bind awake_run (Runs.pos rfl (Runs.bind (same_run _ (by omega)) (Runs.pos rfl (Runs.pos rfl (Runs.bind (same_run _ (by omega)) (Runs.pos rfl ?_))))))))))) fun k => ?_
  ·rw [show (v.2 == v.2) = true from beq_self_eq_true _]
   exact Runs.pure _
  ·rw [D.metrolablaw26_DistMakes.j0]; rfl
 ·refine Runs.succ (Runs.bind (f := fun _ t => some t) awake_run (Runs.pure _)) fun k => ?_
  rw [D.metrolablaw26_DistMakes.j0, if_pos rfl]
theorem makes_run (a b c : Int) (_ha : -9223372036854775808 ≤ a ∧ a < 9223372036854775808) (_hb : -9223372036854775808 ≤ b ∧ b < 9223372036854775808) (_hc : -9223372036854775808 ≤ c ∧ c < 9223372036854775808) : Runs (fun k => D.metrolablaw26_DistMakes.f k a b c) true := by
 have m1 := makes_j a b c true (fun h => by cases h)
 have m2 : Runs (fun k => if a > 30 then (D.metrolablaw26_DistMakes.j0 k a b c (decide (a ≤ 256))) else (D.metrolablaw26_DistMakes.j0 k a b c false)) true :=
  Runs.ite (fun h => makes_j a b c _ fun h2 => by have := of_decide_eq_false h2; omega) (fun h => makes_j a b c _ fun _ => by omega)
 unfold D.metrolablaw26_DistMakes.f
 exact Runs.ite (fun _ => Runs.ite (fun _ => Runs.ite (fun _ => Runs.ite (fun _ => Runs.ite (fun _ => Runs.ite (fun _ => m1) fun _ => m2) fun _ => m2) fun _ => m2) fun _ => m2) fun _ => m2) fun _ => m2
end Go.Proofs.YtkdpcgmnkifbbaaGreatDoor
