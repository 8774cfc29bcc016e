/- Joined by a program of this session out of its texts, with only what the last theorem needs: Rn Ro De DO Dx2. No conditions but those stated. -/
import Derived.Test.YtkdpcgmnkifbbaaGreatDoorZM16
import Derived.Test.YtkdpcgmnkifbbaaGreatDoorZM15
import Derived.Test.YtkdpcgmnkifbbaaGreatDoorZM07
set_option linter.unusedVariables false
set_option linter.unusedSimpArgs false
namespace Go.Proofs.YtkdpcgmnkifbbaaGreatDoorW.PrintLast
end Go.Proofs.YtkdpcgmnkifbbaaGreatDoorW.PrintLast
namespace Go.Proofs.YtkdpcgmnkifbbaaGreatDoorW.PrintMore
end Go.Proofs.YtkdpcgmnkifbbaaGreatDoorW.PrintMore
namespace Go.Proofs.YtkdpcgmnkifbbaaGreatDoorW.PrintWords
end Go.Proofs.YtkdpcgmnkifbbaaGreatDoorW.PrintWords
section
namespace Go.Proofs.YtkdpcgmnkifbbaaGreatDoor
open Go.RowKit Go.Proofs.YtkdpcgmnkifbbaaGreatDoorW.PrintWords Go.Proofs.YtkdpcgmnkifbbaaGreatDoorW.PrintMore
def slashI (l : List UInt8) : Int := match cutL l with | none => -1 | some p => (p.1.length : Int)
theorem slash_l0 (D : List UInt8) (hD : D.length ≤ 4611686018427387904) (d i : Nat) (hd : i + d = D.length) :
  Runs (fun k => R.metrolabref02_slash.l0 k (bas D) i) (if slashI (D.drop i) = -1 then -1 else i + slashI (D.drop i)) := by
 induction d generalizing i with
 | zero =>
  refine Runs.succ (Runs.pure _) fun k => ?_
  rw [R.metrolabref02_slash.l0, bas_size, if_neg (by omega), List.drop_of_length_le (by omega)]; rfl
 | succ d ih =>
  have hi : i < D.length := by omega
  have e1 := List.drop_eq_getElem_cons hi
  have hb := bt_nat (bas D) i (by rw [bas_size]; exact hi)
  rw [bas_list, List.getD, List.getElem?_eq_getElem hi, Option.getD_some] at hb
  by_cases h47 : D[i] = 47
  ·have e2 : slashI (D.drop i) = 0 := by rw [e1, h47]; rfl
   rw [e2, if_neg (by decide)]
   refine Runs.succ (Runs.pure _) fun k => ?_
   rw [R.metrolabref02_slash.l0, bas_size, if_pos (by omega), if_pos (by omega), hb, h47, if_pos (show ((UInt8.toNat 47 : Nat) : Int) = 47 from rfl), Int.add_zero]
  ·have hn := ih (i + 1) (by omega)
   have e2 : (if slashI (D.drop i) = -1 then (-1 : Int) else i + slashI (D.drop i)) = if slashI (D.drop (i + 1)) = -1 then -1 else ((i + 1 : Nat) : Int) + slashI (D.drop (i + 1)) := by
    rw [e1]
    unfold slashI
    rw [cutL, if_neg h47]
    cases hc : cutL (D.drop (i + 1)) with
    | none => rfl
    | some p =>
     simp only [Option.map_some, List.length_cons]
     rw [if_neg (by omega), if_neg (by omega)]; omega
   rw [e2]
   have hne : ¬ (((D[i]).toNat : Nat) : Int) = 47 := by
    intro h; apply h47; apply UInt8.toNat_inj.1; exact Int.ofNat_inj.1 h
   refine Runs.succ hn fun k => ?_
   rw [R.metrolabref02_slash.l0, bas_size, if_pos (by omega), if_pos (by omega), hb, if_neg hne, IntWalk.wrap64_in _ (by omega)]; rfl
theorem ref_slash (a : ByteArray) (ha : a.size ≤ 4611686018427387904) : Runs (fun k => R.metrolabref02_slash.f k a) (slashI a.data.toList) := by
 have h := slash_l0 a.data.toList (by rw [← Lib.size_eq]; exact ha) _ 0 (Nat.zero_add _)
 rw [List.drop_zero] at h
 have e : (if slashI a.data.toList = -1 then (-1 : Int) else ((0 : Nat) : Int) + slashI a.data.toList) = slashI a.data.toList := by split <;> omega
 rw [e, bas_of] at h
 exact h
theorem ref_split (a : ByteArray) (ha : a.size ≤ 4611686018427387904) : Runs (fun k => R.metrolabref02_Split.f k a) ((cutF a).1, (cutF a).2.1) := by
 unfold R.metrolabref02_Split.f
 refine Runs.bind (ref_slash a ha) ?_
 unfold slashI cutF
 cases hc : cutL a.data.toList with
 | none => simp only; rw [if_pos (by decide)]; exact Runs.pure _
 | some p =>
  have h := (cutL_some (x := p.1) (y := p.2) hc).2.1
  have hl := congrArg List.length h
  rw [← Lib.size_eq, List.length_append, List.length_cons] at hl
  have w : wrap64 ((p.1.length : Int) + 1) = ((p.1.length + 1 : Nat) : Int) := by rw [IntWalk.wrap64_in _ (by omega)]; omega
  simp only
  rw [if_neg (by omega), if_pos (by omega), if_pos (by omega), w, if_pos (by omega), if_pos (by omega), Int.toNat_natCast, Int.toNat_natCast]
  have e1 : a.extract 0 p.1.length = bas p.1 := by
   rw [Lib.extract_eq, h, List.drop_zero, Nat.sub_zero, List.take_append_of_le_length (Nat.le_refl _), List.take_length]; rfl
  have e2 : a.extract (p.1.length + 1) a.size = bas p.2 := by
   rw [Lib.extract_eq, h, show p.1 ++ 47 :: p.2 = (p.1 ++ [47]) ++ p.2 by simp, show p.1.length + 1 = (p.1 ++ [47]).length by simp, List.drop_left, List.take_of_length_le (by simp at hl ⊢; omega)]; rfl
  rw [e1, e2]
  exact Runs.pure _
theorem Runs.pos {α : Type} {c : Prop} [Decidable c] {f g : Nat → Option α} {r : α} (h : c) (hr : Runs f r) : Runs (fun k => if c then f k else g k) r := by simp only [if_pos h]; exact hr
theorem Runs.neg {α : Type} {c : Prop} [Decidable c] {f g : Nat → Option α} {r : α} (h : ¬ c) (hr : Runs g r) : Runs (fun k => if c then f k else g k) r := by simp only [if_neg h]; exact hr
theorem chk_size90 {a : ByteArray} (h : chk a = 0) : (dtx (ival a).natAbs).size ≤ 1024 := by
 rw [dtx_size]; exact (fits_iff _).1 (chk_zero h).2
theorem rtx_parts (q : Rat) : rtx q = if q.den = 1 then itx q.num else (itx q.num ++ ⟨#[47]⟩) ++ itx (q.den : Int) := rfl
theorem lowest_j0 (u v g : Int) (hv : v ≠ 0) (hg : g = gdiv u v) (hu : (dtx u.natAbs).size ≤ 40000) (hv2 : (dtx v.natAbs).size ≤ 40000) :
  Runs (fun k => R.metrolabref02_Lowest.j0 k (itx u) (itx v) (itx g)) (rtx (Rat.divInt u v)) := by
 have hg0 : g ≠ 0 := by rw [hg]; exact gdiv_ne hv
 have hgs : (dtx g.natAbs).size ≤ 40000 := by
  refine Nat.le_trans (dtx_mono ?_) hv2
  have h1 : (gdiv u v).natAbs = Nat.gcd u.natAbs v.natAbs := by unfold gdiv gcdv; split <;> omega
  rw [hg, h1]; exact Nat.gcd_le_right _ (by omega)
 have p1 := ref_parted u g hg0 hu hgs
 have p2 := ref_parted v g hg0 hv2 hgs
 have e1 : u.fdiv g = (Rat.divInt u v).num := by rw [hg]; exact low_num hv
 have e2 : v.fdiv g = ((Rat.divInt u v).den : Int) := by rw [hg]; exact low_den hv
 have l1 := quo_le u g hg0
 have l2 := quo_le v g hg0
 rw [e1] at p1 l1
 rw [e2] at p2 l2
 have z1 := itx_size_dtx (Rat.divInt u v).num
 have z2 := itx_size_dtx ((Rat.divInt u v).den : Int)
 have y1 := Nat.le_trans (dtx_mono l1) hu
 have y2 := Nat.le_trans (dtx_mono l2) hv2
 generalize Rat.divInt u v = q at *
 refine Runs.succ (f := fun k => (R.metrolabref01_Parted.f k (itx u) (itx g)).bind fun bt238 => ((R.metrolabref01_Parted.f k (itx v) (itx g)).bind fun bt240 => (if bt240.1.toList = ([49] : List UInt8) then (some bt238.1) else (if bt238.1.size + 1 ≤ 9223372036854775807 then (if (bt238.1 ++ (⟨#[47]⟩ : ByteArray)).size + bt240.1.size ≤ 9223372036854775807 then (some ((bt238.1 ++ (⟨#[47]⟩ : ByteArray)) ++ bt240.1)) else (none)) else (none))))) (Runs.bind p1 (Runs.bind p2 ?_)) fun k => ?_
 ·simp only [itx_one_list]
  rw [rtx_parts]
  by_cases h : q.den = 1
  ·rw [if_pos h, if_pos (by omega)]; exact Runs.pure _
  ·rw [if_neg h, if_neg (by omega), if_pos (by omega), if_pos (by rw [ByteArray.size_append]; show (itx q.num).size + 1 + _ ≤ _; omega)]; exact Runs.pure _
 ·rw [R.metrolabref02_Lowest.j0]
theorem ref_lowest (u v : Int) (hv : v ≠ 0) (hu : (dtx u.natAbs).size ≤ 40000) (hv2 : (dtx v.natAbs).size ≤ 40000) :
  Runs (fun k => R.metrolabref02_Lowest.f k (itx u) (itx v)) (rtx (Rat.divInt u v)) := by
 unfold R.metrolabref02_Lowest.f
 refine Runs.bind (ref_shared u v hu hv2) ?_
 have hgs : (dtx (gcdv u v).natAbs).size ≤ 40000 := by
  refine Nat.le_trans (dtx_mono ?_) hv2
  unfold gcdv
  rw [Int.natAbs_natCast]; exact Nat.gcd_le_right _ (by omega)
 simp only [below_itx, Option.bind_some]
 by_cases h : v < 0
 ·rw [decide_eq_true h]
  refine Runs.pos rfl ?_
  rw [turned_f _ (by omega)]
  simp only [Option.bind_some]
  exact lowest_j0 u v _ hv (by unfold gdiv; rw [if_pos h]) hu hv2
 ·rw [decide_eq_false h]
  refine Runs.neg (by decide) ?_
  exact lowest_j0 u v _ hv (by unfold gdiv; rw [if_neg h]) hu hv2
structure Len (n : Nat) (q : Rat) : Prop where
 num : (dtx q.num.natAbs).size ≤ n
 den : (dtx q.den).size ≤ n
theorem rtx_size_le {n : Nat} {q : Rat} (h : Len n q) : (rtx q).size ≤ 2 * n + 3 := by
 have h1 := itx_size_dtx q.num
 have h2 := itx_size_dtx (q.den : Int)
 rw [Int.natAbs_natCast] at h2
 have h3 := h.num
 have h4 := h.den
 rw [rtx_parts]
 split
 ·omega
 ·rw [ByteArray.size_append, ByteArray.size_append]; show _ + 1 + _ ≤ _; omega
theorem dtx_natmul {x y a b : Nat} {u v : Int} (eu : u.natAbs = x) (ev : v.natAbs = y) (hx : (dtx x).size ≤ a) (hy : (dtx y).size ≤ b) : (dtx (u * v).natAbs).size ≤ a + b := by
 rw [Int.natAbs_mul, eu, ev]; exact dtx_mul hx hy
theorem ref_crossed (p q : Rat) (hp : Len 15000 p) (hq : Len 15000 q) : Runs (fun k => R.metrolabref02_crossed.f k (rtx p) (rtx q)) [itx (p.num * q.den), itx (q.num * p.den), itx ((p.den : Int) * q.den), itx (p.num * q.num), itx ((p.den : Int) * q.num)] := by
 have s1 := rtx_size_le hp
 have s2 := rtx_size_le hq
 have p1 := ref_split (rtx p) (by omega)
 have p2 := ref_split (rtx q) (by omega)
 rw [cutF_rtx] at p1 p2
 have h1 := hp.num
 have h2 := hp.den
 have h3 := hq.num
 have h4 := hq.den
 have h2' : (dtx (p.den : Int).natAbs).size ≤ 90000 := by rw [Int.natAbs_natCast]; omega
 have h4' : (dtx (q.den : Int).natAbs).size ≤ 90000 := by rw [Int.natAbs_natCast]; omega
 unfold R.metrolabref02_crossed.f
 refine Runs.bind p1 (Runs.bind p2 ?_)
 refine Runs.bind (ref_times p.num q.den (by omega) h4') ?_
 refine Runs.bind (ref_times q.num p.den (by omega) h2') ?_
 refine Runs.bind (ref_times p.den q.den h2' h4') ?_
 refine Runs.bind (ref_times p.num q.num (by omega) (by omega)) ?_
 refine Runs.bind (ref_times p.den q.num h2' (by omega)) ?_
 exact Runs.pure _
theorem den_ne (p q : Rat) : (p.den : Int) * q.den ≠ 0 := by
 have h1 := p.den_nz
 have h2 := q.den_nz
 have := Nat.mul_pos (Nat.pos_of_ne_zero h1) (Nat.pos_of_ne_zero h2)
 have e : (p.den : Int) * q.den = ((p.den * q.den : Nat) : Int) := (Int.natCast_mul _ _).symm
 rw [e]; omega
theorem rat_add (p q : Rat) : Rat.divInt (p.num * q.den + q.num * p.den) ((p.den : Int) * q.den) = p + q := by
 have h := Rat.divInt_add_divInt p.num q.num (d₁ := p.den) (d₂ := q.den) (by have := p.den_nz; omega) (by have := q.den_nz; omega)
 rw [Rat.num_divInt_den, Rat.num_divInt_den] at h
 exact h.symm
theorem rat_sub (p q : Rat) : Rat.divInt (p.num * q.den - q.num * p.den) ((p.den : Int) * q.den) = p - q := by
 have h := Rat.divInt_sub_divInt p.num q.num (d₁ := p.den) (d₂ := q.den) (by have := p.den_nz; omega) (by have := q.den_nz; omega)
 rw [Rat.num_divInt_den, Rat.num_divInt_den] at h
 exact h.symm
theorem rat_mul (p q : Rat) : Rat.divInt (p.num * q.num) ((p.den : Int) * q.den) = p * q := by
 have h := Rat.divInt_mul_divInt p.num q.num (d₁ := p.den) (d₂ := q.den)
 rw [Rat.num_divInt_den, Rat.num_divInt_den] at h
 exact h.symm
theorem dtx_int_add {u v : Int} {n : Nat} (hu : (dtx u.natAbs).size ≤ n) (hv : (dtx v.natAbs).size ≤ n) : (dtx (u + v).natAbs).size ≤ n + 1 := Nat.le_trans (dtx_mono (Int.natAbs_add_le u v)) (dtx_add hu hv)
theorem ref2_plus (p q : Rat) (hp : Len 15000 p) (hq : Len 15000 q) : Runs (fun k => R.metrolabref02_Plus.f k (rtx p) (rtx q)) (rtx (p + q)) := by
 have h1 := dtx_natmul (u := p.num) (v := q.den) rfl (Int.natAbs_natCast _) hp.num hq.den
 have h2 := dtx_natmul (u := q.num) (v := p.den) rfl (Int.natAbs_natCast _) hq.num hp.den
 have h3 := dtx_natmul (u := p.den) (v := q.den) (Int.natAbs_natCast _) (Int.natAbs_natCast _) hp.den hq.den
 have h4 := dtx_int_add h1 h2
 have hl := ref_lowest _ _ (den_ne p q) (Nat.le_trans h4 (by decide)) (Nat.le_trans h3 (by decide))
 rw [rat_add] at hl
 unfold R.metrolabref02_Plus.f
 refine Runs.bind (ref_crossed p q hp hq) ?_
 refine Runs.pos (by simp) (Runs.pos (by simp) ?_)
 refine Runs.bind (ref_plus _ _ (Nat.le_trans h1 (by decide)) (Nat.le_trans h2 (by decide))) ?_
 refine Runs.pos (by simp) ?_
 exact Runs.bind hl (Runs.pure _)
theorem ref2_minus (p q : Rat) (hp : Len 15000 p) (hq : Len 15000 q) : Runs (fun k => R.metrolabref02_Minus.f k (rtx p) (rtx q)) (rtx (p - q)) := by
 have h1 := dtx_natmul (u := p.num) (v := q.den) rfl (Int.natAbs_natCast _) hp.num hq.den
 have h2 := dtx_natmul (u := q.num) (v := p.den) rfl (Int.natAbs_natCast _) hq.num hp.den
 have h3 := dtx_natmul (u := p.den) (v := q.den) (Int.natAbs_natCast _) (Int.natAbs_natCast _) hp.den hq.den
 have h4 := dtx_int_add (v := -(q.num * p.den)) h1 (by rw [Int.natAbs_neg]; exact h2)
 rw [← Int.sub_eq_add_neg] at h4
 have hl := ref_lowest _ _ (den_ne p q) (Nat.le_trans h4 (by decide)) (Nat.le_trans h3 (by decide))
 rw [rat_sub] at hl
 unfold R.metrolabref02_Minus.f
 refine Runs.bind (ref_crossed p q hp hq) ?_
 refine Runs.pos (by simp) (Runs.pos (by simp) ?_)
 refine Runs.bind (ref_minus _ _ (Nat.le_trans h1 (by decide)) (Nat.le_trans h2 (by decide))) ?_
 refine Runs.pos (by simp) ?_
 exact Runs.bind hl (Runs.pure _)
theorem ref2_times (p q : Rat) (hp : Len 15000 p) (hq : Len 15000 q) : Runs (fun k => R.metrolabref02_Times.f k (rtx p) (rtx q)) (rtx (p * q)) := by
 have h1 := dtx_natmul (u := p.num) (v := q.num) rfl rfl hp.num hq.num
 have h3 := dtx_natmul (u := p.den) (v := q.den) (Int.natAbs_natCast _) (Int.natAbs_natCast _) hp.den hq.den
 have hl := ref_lowest _ _ (den_ne p q) (Nat.le_trans h1 (by decide)) (Nat.le_trans h3 (by decide))
 rw [rat_mul] at hl
 unfold R.metrolabref02_Times.f
 refine Runs.bind (ref_crossed p q hp hq) ?_
 refine Runs.pos (by simp) (Runs.pos (by simp) ?_)
 exact Runs.bind hl (Runs.pure _)
def cmpq (p q : Rat) : Int := cmpv (p.num * q.den) (q.num * p.den)
theorem rtx_int (v : Int) : rtx (v : Rat) = itx v := by rw [rtx_parts, if_pos (by rfl)]; rfl
theorem ref2_whole (n : Int) (h0 : -9223372036854775808 < n) (h1 : n < 9223372036854775808) : Runs (fun k => R.metrolabref02_Whole.f k n) (itx n) := by
 unfold R.metrolabref02_Whole.f
 exact Runs.bind (ref_of n h0 h1) (Runs.pure _)
end Go.Proofs.YtkdpcgmnkifbbaaGreatDoor
end
section
namespace Go.Proofs.YtkdpcgmnkifbbaaGreatDoor
open Go.RowKit Go.Proofs.YtkdpcgmnkifbbaaGreatDoorW.PrintWords Go.Proofs.YtkdpcgmnkifbbaaGreatDoorW.PrintMore
structure Bd (e : Nat) (q : Rat) : Prop where
 num : q.num.natAbs < 10 ^ e
 den : q.den < 10 ^ e
theorem fits_exp2 {v : Int} {e : Nat} (h : v.natAbs < 10 ^ e) (he : e ≤ 1024) : fits v := Nat.lt_of_lt_of_le h (Nat.pow_le_pow_right (by decide) he)
theorem Bd.mono {a b : Nat} {q : Rat} (h : Bd a q) (hab : a ≤ b) : Bd b q := ⟨Nat.lt_of_lt_of_le h.num (Nat.pow_le_pow_right (by decide) hab), Nat.lt_of_lt_of_le h.den (Nat.pow_le_pow_right (by decide) hab)⟩
theorem bd_divInt {u v : Int} {e : Nat} (hv : v ≠ 0) (hu : u.natAbs < 10 ^ e) (hv2 : v.natAbs < 10 ^ e) : Bd e (Rat.divInt u v) :=
 ⟨Nat.lt_of_le_of_lt (divInt_le hv).1 hu, Nat.lt_of_le_of_lt (divInt_le hv).2 hv2⟩
theorem mul_lt_pow {u v : Int} {a b : Nat} (hu : u.natAbs < 10 ^ a) (hv : v.natAbs < 10 ^ b) : (u * v).natAbs < 10 ^ (a + b) := by
 rw [Int.natAbs_mul, Nat.pow_add]
 exact Nat.mul_lt_mul_of_lt_of_le hu (Nat.le_of_lt hv) (Nat.pow_pos (by decide))
theorem add_lt_pow {u v : Int} {a : Nat} (hu : u.natAbs < 10 ^ a) (hv : v.natAbs < 10 ^ a) : (u + v).natAbs < 10 ^ (a + 1) := by
 rw [Nat.pow_succ]
 have := Int.natAbs_add_le u v
 generalize 10 ^ a = p at *
 omega
theorem Bd.den' {a : Nat} {q : Rat} (h : Bd a q) : ((q.den : Nat) : Int).natAbs < 10 ^ a := by rw [Int.natAbs_natCast]; exact h.den
theorem bd_mul {a b : Nat} {p q : Rat} (hp : Bd a p) (hq : Bd b q) : Bd (a + b) (p * q) := by
 rw [← rat_mul]
 exact bd_divInt (den_ne p q) (mul_lt_pow hp.num hq.num) (mul_lt_pow hp.den' hq.den')
theorem bd_sub {a b : Nat} {p q : Rat} (hp : Bd a p) (hq : Bd b q) : Bd (a + b + 1) (p - q) := by
 rw [← rat_sub, Int.sub_eq_add_neg]
 refine bd_divInt (den_ne p q) (add_lt_pow (mul_lt_pow hp.num hq.den') ?_) (Nat.lt_of_lt_of_le (mul_lt_pow hp.den' hq.den') (Nat.pow_le_pow_right (by decide) (Nat.le_succ _)))
 rw [Int.natAbs_neg, Nat.add_comm]; exact mul_lt_pow hq.num hp.den'
theorem Bd.rchk {a : Nat} {q : Rat} (h : Bd a q) (ha : a ≤ 1024) : Go.Proofs.YtkdpcgmnkifbbaaGreatDoor.rchk (rtx q) = 0 := by
 rw [rchk_rtx, if_pos ⟨fits_exp2 h.num ha, fits_exp2 h.den' ha⟩]
theorem rtwo_rtx {a b : Nat} {p q : Rat} (hp : Bd a p) (hq : Bd b q) (ha : a ≤ 1024) (hb : b ≤ 1024) (r : ByteArray × Int) : rtwo (rtx p) (rtx q) r = r := by
 unfold rtwo
 rw [hp.rchk ha, hq.rchk hb, if_neg (by decide), if_neg (by decide)]
theorem mulR {a b : Nat} {p q : Rat} (hp : Bd a p) (hq : Bd b q) (hab : a + b ≤ 1024) :
  rtwo (rtx p) (rtx q) (madeR (rnum (rtx p) * rnum (rtx q)) (rden (rtx p) * rden (rtx q)) (fits (rnum (rtx p) * rnum (rtx q)) ∧ fits (rden (rtx p) * rden (rtx q)))) = (rtx (p * q), 0) := by
 rw [rtwo_rtx hp hq (by omega) (by omega), rnum_rtx, rnum_rtx, rden_rtx, rden_rtx]
 unfold madeR
 rw [if_pos ⟨fits_exp2 (mul_lt_pow hp.num hq.num) hab, fits_exp2 (mul_lt_pow hp.den' hq.den') hab⟩, rat_mul]
theorem subR {a b : Nat} {p q : Rat} (hp : Bd a p) (hq : Bd b q) (hab : a + b + 1 ≤ 1024) :
  rtwo (rtx p) (rtx q) (madeR (rnum (rtx p) * rden (rtx q) - rnum (rtx q) * rden (rtx p)) (rden (rtx p) * rden (rtx q)) (fits (rnum (rtx p) * rden (rtx q)) ∧ fits (rnum (rtx q) * rden (rtx p)) ∧ fits (rnum (rtx p) * rden (rtx q) - rnum (rtx q) * rden (rtx p)) ∧ fits (rden (rtx p) * rden (rtx q)))) = (rtx (p - q), 0) := by
 rw [rtwo_rtx hp hq (by omega) (by omega), rnum_rtx, rnum_rtx, rden_rtx, rden_rtx]
 have h1 := mul_lt_pow hp.num hq.den'
 have h2 := mul_lt_pow hq.num hp.den'
 have h3 : (p.num * q.den - q.num * p.den).natAbs < 10 ^ (a + b + 1) := by
  rw [Int.sub_eq_add_neg]; exact add_lt_pow h1 (by rw [Int.natAbs_neg, Nat.add_comm]; exact h2)
 unfold madeR
 rw [if_pos ⟨fits_exp2 h1 (by omega), fits_exp2 h2 (by omega), fits_exp2 h3 hab, fits_exp2 (mul_lt_pow hp.den' hq.den') (by omega)⟩, rat_sub]
theorem cmpR_rtx {a b : Nat} {p q : Rat} (hp : Bd a p) (hq : Bd b q) (hab : a + b ≤ 1024) : cmpR (rtx p) (rtx q) = (cmpq p q, 0) := by
 unfold cmpR cmpq
 rw [hp.rchk (by omega), hq.rchk (by omega), if_neg (by decide), if_neg (by decide), rnum_rtx, rnum_rtx, rden_rtx, rden_rtx]
 have h1 := mul_lt_pow hp.num hq.den'
 have h2 := mul_lt_pow hq.num hp.den'
 rw [if_pos ⟨fits_exp2 h1 (by omega), fits_exp2 h2 (by omega)⟩]
theorem Bd.len {a : Nat} {q : Rat} (h : Bd a q) (ha : 0 < a) {n : Nat} (hn : a ≤ n) : Len n q := ⟨Nat.le_trans (size_of_lt h.num ha) hn, Nat.le_trans (size_of_lt h.den ha) hn⟩
theorem rtx_size2 {a : Nat} {q : Rat} (h : Bd a q) (ha : 0 < a) : (rtx q).size ≤ 2 * a + 3 := rtx_size_le (h.len ha (Nat.le_refl _))
end Go.Proofs.YtkdpcgmnkifbbaaGreatDoor
end
section
namespace Go.Proofs.YtkdpcgmnkifbbaaGreatDoor
open Go.RowKit Go.Proofs.YtkdpcgmnkifbbaaGreatDoorW.PrintWords Go.Proofs.YtkdpcgmnkifbbaaGreatDoorW.PrintMore
def momq (pw : Nat) (l : List (Int × ByteArray)) : Rat := Rat.divInt (sumf (fM pw) l) (totw l)
def varq (l : List (Int × ByteArray)) : Rat := momq 2 l - momq 1 l * momq 1 l
def varR (l : List (Int × ByteArray)) : ByteArray × Int := distR l (rtx (varq l), 0)
theorem Gd.tot {l : List (Int × ByteArray)} (h : Gd l) : (totw l).natAbs < 10 ^ 77 := sum77 h.len h.fW
theorem Gd.tot0 {l : List (Int × ByteArray)} (h : Gd l) : totw l ≠ 0 := by have := sumf_pos h.ne h.pos; omega
theorem Gd.mom {l : List (Int × ByteArray)} (h : Gd l) {pw : Nat} (hp : pw ≤ 2) : Bd 77 (momq pw l) := bd_divInt h.tot0 (sum77 h.len (h.fM hp)) h.tot
theorem Gd.prob {l : List (Int × ByteArray)} (h : Gd l) (lo hi : Int) : Bd 77 (probq l lo hi) := bd_divInt h.tot0 (sum77 h.len (h.fP lo hi)) h.tot
theorem rsz {a : Nat} {q : Rat} (h : Bd a q) (ha : 0 < a) (hb : a ≤ 1000000) : (rtx q).size ≤ 4611686018427387904 := Nat.le_trans (rtx_size2 h ha) (by omega)
set_option maxRecDepth 100000 in
set_option maxHeartbeats 4000000 in
theorem var_calls (A0 : Option Addr) (c0 : Nat) (l : List (Int × ByteArray)) (w : World) (hr0 : Kd.C KP w A0 l.length l) (hc0 : l.length ≤ c0) (hok : okD l) (ht : Tabs w) :
  Calls Tryz.prog 18 #[.slice A0 l.length c0] w (TwoPost w (varR l)) := by
 have ME := Lib.hid (mean_calls A0 c0 l w hr0 hc0 hok ht)
 have HR0 := Lib.hid hr0; clear hr0
 have HC0 := Lib.hid hc0; clear hc0
 have HT := Lib.hid ht; clear ht
 by_cases h0 : dck l = 0
 ·have hgd := gd_of h0 (hok.2 h0); clear hok
  have em : meanR l = (rtx (momq 1 l), 0) := if_pos h0
  have e0 : varR l = (rtx (varq l), 0) := if_pos h0
  rw [em] at ME
  rw [e0]
  have b1 := hgd.mom (pw := 1) (by decide)
  have b2 := hgd.mom (pw := 2) (by decide)
  have b3 := bd_mul b1 b1
  have hmul := mulR b1 b1 (by decide)
  have hsub := subR b2 b3 (by decide)
  have z1 := rsz b1 (by decide) (by decide)
  have z2 := rsz b2 (by decide) (by decide)
  have z3 := rsz b3 (by decide) (by decide)
  have MU := Lib.hid fun (W : World) (hw : Tabs W) => (show Calls _ _ _ W (TwoPost W (rtx (momq 1 l * momq 1 l), 0)) from by have := rMul_calls _ _ z1 z1 W hw; rw [hmul] at this; exact this)
  have SU := Lib.hid fun (W : World) (hw : Tabs W) => (show Calls _ _ _ W (TwoPost W (rtx (varq l), 0)) from by have := rSub_calls _ _ z2 z3 W hw; rw [hsub] at this; exact this)
  have SH := Lib.hid fun (c : Nat) (W : World) (hb : Below w.heap.size w W) (k0 : W.cell? ⟨c, 0, none⟩ = some (.int .i64 (2 : Nat))) => share_M c 2 A0 c0 l W (Kd.C_below HR0.out hb) HC0.out hgd k0 (by decide) (HT.out.below hb)
  clear h0 em e0 b1 b2 b3 hmul hsub z1 z2 z3 hgd
  go_enter Tryz.func18, Tryz.ntmps18
  go_wp2_with fail
  refine ME.out.mono ?_
  rintro e w1 ⟨rfl, hb1⟩
  have HB1 := Lib.hid hb1; clear hb1
  go_wp2_with fail
  refine (moment_calls 2 w1).mono ?_
  rintro e w2 ⟨rfl, k0, hb2⟩
  have HB2 := Lib.hid (below_then HB1.out HB1.out.size hb2); clear hb2
  have K0 := Lib.hid k0; clear k0
  go_wp2_with fail
  refine (SH.out w1.heap.size w2 HB2.out K0.out).mono ?_
  rintro e w3 ⟨rfl, hb3⟩
  have HB3 := Lib.hid (below_then HB2.out HB2.out.size hb3); clear hb3
  go_wp2_with fail
  refine (MU.out w3 (HT.out.below HB3.out)).mono ?_
  rintro e w4 ⟨rfl, hb4⟩
  have HB4 := Lib.hid (below_then HB3.out HB3.out.size hb4); clear hb4
  go_wp2_with fail
  refine (SU.out w4 (HT.out.below HB4.out)).mono ?_
  rintro e w5 ⟨rfl, hb5⟩
  have HB5 := Lib.hid (below_then HB4.out HB4.out.size hb5); clear hb5
  go_wp2
  go_ret2
  exact ⟨rfl, HB5.out⟩
 ·have em : meanR l = (⟨#[]⟩, dck l) := if_neg h0
  have e0 : varR l = (⟨#[]⟩, dck l) := if_neg h0
  rw [em] at ME
  rw [e0]
  have hne : (dck l == 0) = false := beq_eq_false_iff_ne.2 h0
  clear hok h0 e0 em
  generalize dck l = d at ME hne ⊢
  go_enter Tryz.func18, Tryz.ntmps18
  go_wp2_with fail
  refine ME.out.mono ?_
  rintro e w1 ⟨rfl, hb1⟩
  have HB1 := Lib.hid hb1; clear hb1
  go_wp2
  go_ret2
  exact ⟨rfl, HB1.out⟩
end Go.Proofs.YtkdpcgmnkifbbaaGreatDoor
end
section
namespace Go.Proofs.YtkdpcgmnkifbbaaGreatDoor.D
open Go.RowKit Go.Proofs.YtkdpcgmnkifbbaaGreatDoorW.PrintWords Go.Proofs.YtkdpcgmnkifbbaaGreatDoorW.PrintMore
theorem canI {a : ByteArray} (h : form a.data.toList = true) : itx (ival a) = a := (form_eq h).symm
def okI (a : ByteArray) : Prop := form a.data.toList = true ∧ (dtx (ival a).natAbs).size ≤ 30000
instance (a : ByteArray) : Decidable (okI a) := inferInstanceAs (Decidable (_ ∧ _))
def okR (a : ByteArray) : Prop := rtx (rval a) = a ∧ (dtx (rval a).num.natAbs).size ≤ 15000 ∧ (dtx (rval a).den).size ≤ 15000
instance (a : ByteArray) : Decidable (okR a) := inferInstanceAs (Decidable (_ ∧ _))
theorem okR.len {a : ByteArray} (h : okR a) : Len 15000 (rval a) := ⟨h.2.1, h.2.2⟩
theorem okI_itx {v : Int} (h : (dtx v.natAbs).size ≤ 30000) : okI (itx v) := ⟨form_itx v, by rw [ival_itx]; exact h⟩
theorem okR_rtx {q : Rat} (h : Len 15000 q) : okR (rtx q) := ⟨by rw [rval_rtx], by rw [rval_rtx]; exact h.num, by rw [rval_rtx]; exact h.den⟩
theorem le90 {a : ByteArray} (h : okI a) : (dtx (ival a).natAbs).size ≤ 90000 := Nat.le_trans h.2 (by decide)
theorem le40 {a : ByteArray} (h : okI a) : (dtx (ival a).natAbs).size ≤ 40000 := Nat.le_trans h.2 (by decide)
def metrolabref01_Check.f (a0 : ByteArray) : Option (Int) := if a0.size ≤ 4611686018427387900 then some (chk a0) else none
theorem metrolabref01_Check.calls (a0 : ByteArray) (r : Int) (w : World) (h : metrolabref01_Check.f a0 = some r) :
  Calls Tryz.prog 51 #[.string a0] w fun e w' => e = .returned (.int .i64 r) ∧ Below w.heap.size w w' := by
 unfold metrolabref01_Check.f at h
 split at h
 ·rename_i h1
  obtain ⟨k, hk⟩ := (ref_check a0 (by omega)).get
  rw [Option.some.inj h] at hk
  refine (R.metrolabref01_Check.calls k a0 r w hk).mono ?_
  rintro e w' ⟨rfl, n, rfl⟩
  exact ⟨rfl, pw_below_drewN (Below.refl _ _) n⟩
 ·cases h
def metrolabref01_Of.f (a0 : Int) : Option (ByteArray) := if -9223372036854775808 < a0 ∧ a0 < 9223372036854775808 then some (itx a0) else none
theorem metrolabref01_Of.calls (a0 : Int) (r : ByteArray) (w : World) (h : metrolabref01_Of.f a0 = some r) :
  Calls Tryz.prog 106 #[.int .i64 a0] w fun e w' => e = .returned (.string r) ∧ Below w.heap.size w w' := by
 unfold metrolabref01_Of.f at h
 split at h
 ·rename_i h1
  obtain ⟨k, hk⟩ := (ref_of a0 h1.1 h1.2).get
  rw [Option.some.inj h] at hk
  exact R.metrolabref01_Of.calls k a0 r w hk
 ·cases h
def metrolabref01_Plus.f (a0 : ByteArray) (a1 : ByteArray) : Option (ByteArray) := if okI a0 ∧ okI a1 then some (itx (ival a0 + ival a1)) else none
theorem metrolabref01_Plus.calls (a0 : ByteArray) (a1 : ByteArray) (r : ByteArray) (w : World) (h : metrolabref01_Plus.f a0 a1 = some r) :
  Calls Tryz.prog 76 #[.string a0, .string a1] w fun e w' => e = .returned (.string r) ∧ Below w.heap.size w w' := by
 unfold metrolabref01_Plus.f at h
 split at h
 ·rename_i h1
  obtain ⟨k, hk⟩ := (show Runs (fun k => R.metrolabref01_Plus.f k a0 a1) _ from by have := ref_plus (ival a0) (ival a1) (le90 h1.1) (le90 h1.2); rwa [canI h1.1.1, canI h1.2.1] at this).get
  rw [Option.some.inj h] at hk
  exact R.metrolabref01_Plus.calls k a0 a1 r w hk
 ·cases h
def metrolabref01_Minus.f (a0 : ByteArray) (a1 : ByteArray) : Option (ByteArray) := if okI a0 ∧ okI a1 then some (itx (ival a0 - ival a1)) else none
theorem metrolabref01_Minus.calls (a0 : ByteArray) (a1 : ByteArray) (r : ByteArray) (w : World) (h : metrolabref01_Minus.f a0 a1 = some r) :
  Calls Tryz.prog 91 #[.string a0, .string a1] w fun e w' => e = .returned (.string r) ∧ Below w.heap.size w w' := by
 unfold metrolabref01_Minus.f at h
 split at h
 ·rename_i h1
  obtain ⟨k, hk⟩ := (show Runs (fun k => R.metrolabref01_Minus.f k a0 a1) _ from by have := ref_minus (ival a0) (ival a1) (le90 h1.1) (le90 h1.2); rwa [canI h1.1.1, canI h1.2.1] at this).get
  rw [Option.some.inj h] at hk
  exact R.metrolabref01_Minus.calls k a0 a1 r w hk
 ·cases h
def metrolabref01_Times.f (a0 : ByteArray) (a1 : ByteArray) : Option (ByteArray) := if okI a0 ∧ okI a1 then some (itx (ival a0 * ival a1)) else none
theorem metrolabref01_Times.calls (a0 : ByteArray) (a1 : ByteArray) (r : ByteArray) (w : World) (h : metrolabref01_Times.f a0 a1 = some r) :
  Calls Tryz.prog 97 #[.string a0, .string a1] w fun e w' => e = .returned (.string r) ∧ Below w.heap.size w w' := by
 unfold metrolabref01_Times.f at h
 split at h
 ·rename_i h1
  obtain ⟨k, hk⟩ := (show Runs (fun k => R.metrolabref01_Times.f k a0 a1) _ from by have := ref_times (ival a0) (ival a1) (le90 h1.1) (le90 h1.2); rwa [canI h1.1.1, canI h1.2.1] at this).get
  rw [Option.some.inj h] at hk
  exact R.metrolabref01_Times.calls k a0 a1 r w hk
 ·cases h
def metrolabref01_Order.f (a0 : ByteArray) (a1 : ByteArray) : Option (Int) := if okI a0 ∧ okI a1 then some (cmpv (ival a0) (ival a1)) else none
theorem metrolabref01_Order.calls (a0 : ByteArray) (a1 : ByteArray) (r : Int) (w : World) (h : metrolabref01_Order.f a0 a1 = some r) :
  Calls Tryz.prog 52 #[.string a0, .string a1] w fun e w' => e = .returned (.int .i64 r) ∧ Below w.heap.size w w' := by
 unfold metrolabref01_Order.f at h
 split at h
 ·rename_i h1
  obtain ⟨k, hk⟩ := (show Runs (fun k => R.metrolabref01_Order.f k a0 a1) _ from by have := ref_order (ival a0) (ival a1) (le90 h1.1) (le90 h1.2); rwa [canI h1.1.1, canI h1.2.1] at this).get
  rw [Option.some.inj h] at hk
  exact R.metrolabref01_Order.calls k a0 a1 r w hk
 ·cases h
def metrolabref01_Shared.f (a0 : ByteArray) (a1 : ByteArray) : Option (ByteArray) := if okI a0 ∧ okI a1 then some (itx (gcdv (ival a0) (ival a1))) else none
theorem metrolabref01_Shared.calls (a0 : ByteArray) (a1 : ByteArray) (r : ByteArray) (w : World) (h : metrolabref01_Shared.f a0 a1 = some r) :
  Calls Tryz.prog 62 #[.string a0, .string a1] w fun e w' => e = .returned (.string r) ∧ Below w.heap.size w w' := by
 unfold metrolabref01_Shared.f at h
 split at h
 ·rename_i h1
  obtain ⟨k, hk⟩ := (show Runs (fun k => R.metrolabref01_Shared.f k a0 a1) _ from by have := ref_shared (ival a0) (ival a1) (le40 h1.1) (le40 h1.2); rwa [canI h1.1.1, canI h1.2.1] at this).get
  rw [Option.some.inj h] at hk
  exact R.metrolabref01_Shared.calls k a0 a1 r w hk
 ·cases h
def metrolabref01_Parted.f (a0 : ByteArray) (a1 : ByteArray) : Option (ByteArray × ByteArray) := if (okI a0 ∧ okI a1) ∧ ival a1 ≠ 0 then some (itx ((ival a0).fdiv (ival a1)), itx ((ival a0).fmod (ival a1))) else none
theorem metrolabref01_Parted.calls (a0 : ByteArray) (a1 : ByteArray) (r1 : ByteArray) (r2 : ByteArray) (w : World) (h : metrolabref01_Parted.f a0 a1 = some (r1, r2)) :
  Calls Tryz.prog 63 #[.string a0, .string a1] w fun e w' => e = .returned (.tuple #[.string r1, .string r2]) ∧ Below w.heap.size w w' := by
 unfold metrolabref01_Parted.f at h
 split at h
 ·rename_i h1
  obtain ⟨k, hk⟩ := (show Runs (fun k => R.metrolabref01_Parted.f k a0 a1) _ from by have := ref_parted (ival a0) (ival a1) h1.2 (le40 h1.1.1) (le40 h1.1.2); rwa [canI h1.1.1.1, canI h1.1.2.1] at this).get
  rw [Option.some.inj h] at hk
  exact R.metrolabref01_Parted.calls k a0 a1 r1 r2 w hk
 ·cases h
theorem below_bytes {a : ByteArray} (h : form a.data.toList = true) : R.metrolabref01_Below.f a = some (decide (ival a < 0)) := by
 have := below_itx (ival a)
 rwa [canI h] at this
def metrolabref01_Below.f (a0 : ByteArray) : Option Bool := if form a0.data.toList = true then some (decide (ival a0 < 0)) else none
theorem metrolabref01_Below.calls (a0 : ByteArray) (r : Bool) (w : World) (h : metrolabref01_Below.f a0 = some r) :
  Calls Tryz.prog 92 #[.string a0] w fun e w' => e = .returned (.bool r) ∧ Below w.heap.size w w' := by
 unfold metrolabref01_Below.f at h
 split at h
 ·rename_i h1
  have hk := below_bytes h1
  rw [Option.some.inj h] at hk
  refine (R.metrolabref01_Below.calls a0 r w hk).mono ?_
  rintro e w' ⟨rfl, n, rfl⟩
  exact ⟨rfl, pw_below_drewN (Below.refl _ _) n⟩
 ·cases h
def metrolabref02_Lowest.f (a0 : ByteArray) (a1 : ByteArray) : Option (ByteArray) := if (okI a0 ∧ okI a1) ∧ ival a1 ≠ 0 then some (rtx (Rat.divInt (ival a0) (ival a1))) else none
theorem metrolabref02_Lowest.calls (a0 : ByteArray) (a1 : ByteArray) (r : ByteArray) (w : World) (h : metrolabref02_Lowest.f a0 a1 = some r) :
  Calls Tryz.prog 109 #[.string a0, .string a1] w fun e w' => e = .returned (.string r) ∧ Below w.heap.size w w' := by
 unfold metrolabref02_Lowest.f at h
 split at h
 ·rename_i h1
  obtain ⟨k, hk⟩ := (show Runs (fun k => R.metrolabref02_Lowest.f k a0 a1) _ from by have := ref_lowest (ival a0) (ival a1) h1.2 (le40 h1.1.1) (le40 h1.1.2); rwa [canI h1.1.1.1, canI h1.1.2.1] at this).get
  rw [Option.some.inj h] at hk
  exact R.metrolabref02_Lowest.calls k a0 a1 r w hk
 ·cases h
def metrolabref02_Plus.f (a0 : ByteArray) (a1 : ByteArray) : Option (ByteArray) := if okR a0 ∧ okR a1 then some (rtx (rval a0 + rval a1)) else none
theorem metrolabref02_Plus.calls (a0 : ByteArray) (a1 : ByteArray) (r : ByteArray) (w : World) (h : metrolabref02_Plus.f a0 a1 = some r) :
  Calls Tryz.prog 66 #[.string a0, .string a1] w fun e w' => e = .returned (.string r) ∧ Below w.heap.size w w' := by
 unfold metrolabref02_Plus.f at h
 split at h
 ·rename_i h1
  obtain ⟨k, hk⟩ := (show Runs (fun k => R.metrolabref02_Plus.f k a0 a1) _ from by have := ref2_plus (rval a0) (rval a1) h1.1.len h1.2.len; rwa [h1.1.1, h1.2.1] at this).get
  rw [Option.some.inj h] at hk
  exact R.metrolabref02_Plus.calls k a0 a1 r w hk
 ·cases h
def metrolabref02_Minus.f (a0 : ByteArray) (a1 : ByteArray) : Option (ByteArray) := if okR a0 ∧ okR a1 then some (rtx (rval a0 - rval a1)) else none
theorem metrolabref02_Minus.calls (a0 : ByteArray) (a1 : ByteArray) (r : ByteArray) (w : World) (h : metrolabref02_Minus.f a0 a1 = some r) :
  Calls Tryz.prog 86 #[.string a0, .string a1] w fun e w' => e = .returned (.string r) ∧ Below w.heap.size w w' := by
 unfold metrolabref02_Minus.f at h
 split at h
 ·rename_i h1
  obtain ⟨k, hk⟩ := (show Runs (fun k => R.metrolabref02_Minus.f k a0 a1) _ from by have := ref2_minus (rval a0) (rval a1) h1.1.len h1.2.len; rwa [h1.1.1, h1.2.1] at this).get
  rw [Option.some.inj h] at hk
  exact R.metrolabref02_Minus.calls k a0 a1 r w hk
 ·cases h
def metrolabref02_Times.f (a0 : ByteArray) (a1 : ByteArray) : Option (ByteArray) := if okR a0 ∧ okR a1 then some (rtx (rval a0 * rval a1)) else none
theorem metrolabref02_Times.calls (a0 : ByteArray) (a1 : ByteArray) (r : ByteArray) (w : World) (h : metrolabref02_Times.f a0 a1 = some r) :
  Calls Tryz.prog 80 #[.string a0, .string a1] w fun e w' => e = .returned (.string r) ∧ Below w.heap.size w w' := by
 unfold metrolabref02_Times.f at h
 split at h
 ·rename_i h1
  obtain ⟨k, hk⟩ := (show Runs (fun k => R.metrolabref02_Times.f k a0 a1) _ from by have := ref2_times (rval a0) (rval a1) h1.1.len h1.2.len; rwa [h1.1.1, h1.2.1] at this).get
  rw [Option.some.inj h] at hk
  exact R.metrolabref02_Times.calls k a0 a1 r w hk
 ·cases h
def metrolabref02_Whole.f (a0 : Int) : Option (ByteArray) := if -9223372036854775808 < a0 ∧ a0 < 9223372036854775808 then some (itx a0) else none
theorem metrolabref02_Whole.calls (a0 : Int) (r : ByteArray) (w : World) (h : metrolabref02_Whole.f a0 = some r) :
  Calls Tryz.prog 81 #[.int .i64 a0] w fun e w' => e = .returned (.string r) ∧ Below w.heap.size w w' := by
 unfold metrolabref02_Whole.f at h
 split at h
 ·rename_i h1
  obtain ⟨k, hk⟩ := (ref2_whole a0 h1.1 h1.2).get
  rw [Option.some.inj h] at hk
  exact R.metrolabref02_Whole.calls k a0 r w hk
 ·cases h
def whole_Check.f (a0 : ByteArray) : Option Int := L.whole_Check.f a0
theorem whole_Check.calls (a0 : ByteArray) (r : Int) (w : World) (h : whole_Check.f a0 = some r) :
  Calls Tryz.prog 48 #[.string a0] w fun e w' => e = .returned (.int .i64 r) ∧ Below w.heap.size w w' := L.whole_Check.calls a0 r w h
def whole_Sign.f (a0 : ByteArray) : Option (Int × Int) := E.whole_Sign.f a0
theorem whole_Sign.calls (a0 : ByteArray) (r1 r2 : Int) (w : World) (h : whole_Sign.f a0 = some (r1, r2)) :
  Calls Tryz.prog 89 #[.string a0] w fun e w' => e = .returned (.tuple #[.int .i64 r1, .int .i64 r2]) ∧ Below w.heap.size w w' := E.whole_Sign.calls a0 r1 r2 w h
def whole_Mul.f (a0 : ByteArray) (a1 : ByteArray) : Option (ByteArray × Int) := if a0.size ≤ 4611686018427387904 ∧ a1.size ≤ 4611686018427387904 then some (two a0 a1 (kept (ival a0 * ival a1))) else none
theorem whole_Mul.calls (a0 : ByteArray) (a1 : ByteArray) (r1 : ByteArray) (r2 : Int) (w : World) (h : whole_Mul.f a0 a1 = some (r1, r2)) (HT : Aside0 (Tabs w)) :
  Calls Tryz.prog 78 #[.string a0, .string a1] w fun e w' => e = .returned (.tuple #[.string r1, .int .i64 r2]) ∧ Below w.heap.size w w' := by
 unfold whole_Mul.f at h
 split at h
 ·rename_i h1
  have h2 := mul_calls a0 a1 (Nat.le_trans h1.1 (by decide)) (Nat.le_trans h1.2 (by decide)) w HT.out
  unfold TwoPost at h2
  rw [Option.some.inj h] at h2
  exact h2
 ·cases h
def whole_Gcd.f (a0 : ByteArray) (a1 : ByteArray) : Option (ByteArray × Int) := if a0.size ≤ 4611686018427387904 ∧ a1.size ≤ 4611686018427387904 then some (two a0 a1 (itx (gcdv (ival a0) (ival a1)), 0)) else none
theorem whole_Gcd.calls (a0 : ByteArray) (a1 : ByteArray) (r1 : ByteArray) (r2 : Int) (w : World) (h : whole_Gcd.f a0 a1 = some (r1, r2)) (HT : Aside0 (Tabs w)) :
  Calls Tryz.prog 60 #[.string a0, .string a1] w fun e w' => e = .returned (.tuple #[.string r1, .int .i64 r2]) ∧ Below w.heap.size w w' := by
 unfold whole_Gcd.f at h
 split at h
 ·rename_i h1
  have h2 := gcd_calls a0 a1 (Nat.le_trans h1.1 (by decide)) (Nat.le_trans h1.2 (by decide)) w HT.out
  unfold TwoPost at h2
  rw [Option.some.inj h] at h2
  exact h2
 ·cases h
def whole_Add.f (a0 a1 : ByteArray) : Option (ByteArray × Int) := L.whole_Add.f a0 a1
theorem whole_Add.calls (a0 a1 r1 : ByteArray) (r2 : Int) (w : World) (h : whole_Add.f a0 a1 = some (r1, r2)) (HT : Aside0 (Tabs w)) :
  Calls Tryz.prog 75 #[.string a0, .string a1] w fun e w' => e = .returned (.tuple #[.string r1, .int .i64 r2]) ∧ Below w.heap.size w w' := L.whole_Add.calls a0 a1 r1 r2 w h HT
def whole_Quo.f (a0 a1 : ByteArray) : Option (ByteArray × Int) := L.whole_Quo.f a0 a1
theorem whole_Quo.calls (a0 a1 r1 : ByteArray) (r2 : Int) (w : World) (h : whole_Quo.f a0 a1 = some (r1, r2)) (HT : Aside0 (Tabs w)) :
  Calls Tryz.prog 61 #[.string a0, .string a1] w fun e w' => e = .returned (.tuple #[.string r1, .int .i64 r2]) ∧ Below w.heap.size w w' := L.whole_Quo.calls a0 a1 r1 r2 w h HT
def whole_Of.f (a0 : Int) : Option ByteArray := C.whole_Of.f a0
theorem whole_Of.calls (a0 : Int) (r : ByteArray) (w : World) (h : whole_Of.f a0 = some r) (HT : Aside0 (Tabs w)) :
  Calls Tryz.prog 79 #[.int .i64 a0] w fun e w' => e = .returned (.string r) ∧ Below w.heap.size w w' := C.whole_Of.calls a0 r w h HT
def whole_Binomial.f (a0 a1 : Int) : Option (ByteArray × Int) := if 0 ≤ a1 ∧ a1 ≤ a0 ∧ a0 ≤ 30 then some (itx (ch a0.toNat a1.toNat : Nat), 0) else none
theorem whole_Binomial.calls (a0 a1 : Int) (r1 : ByteArray) (r2 : Int) (w : World) (h : whole_Binomial.f a0 a1 = some (r1, r2)) (HT : Aside0 (Tabs w)) :
  Calls Tryz.prog 55 #[.int .i64 a0, .int .i64 a1] w fun e w' => e = .returned (.tuple #[.string r1, .int .i64 r2]) ∧ Below w.heap.size w w' := by
 unfold whole_Binomial.f at h
 split at h
 ·rename_i h1
  obtain ⟨n, rfl⟩ : ∃ n : Nat, a0 = n := ⟨a0.toNat, by omega⟩
  obtain ⟨m, rfl⟩ : ∃ m : Nat, a1 = m := ⟨a1.toNat, by omega⟩
  have h3 := binomial_calls n m (by omega) (by omega) w HT.out
  unfold BinPost at h3
  rw [Int.toNat_natCast, Int.toNat_natCast] at h
  cases h
  exact h3
 ·cases h
def ratio_Check.f (a0 : ByteArray) : Option Int := if a0.size ≤ 4611686018427387904 then some (rchk a0) else none
theorem ratio_Check.calls (a0 : ByteArray) (r : Int) (w : World) (h : ratio_Check.f a0 = some r) (HT : Aside0 (Tabs w)) :
  Calls Tryz.prog 36 #[.string a0] w fun e w' => e = .returned (.int .i64 r) ∧ Below w.heap.size w w' := by
 unfold ratio_Check.f at h
 split at h
 ·rename_i h1; cases h; exact Q.ratio_Check.calls 2 a0 _ w (rcheck_f a0 h1 0) HT
 ·cases h
def ratio_Compare.f (a0 : ByteArray) (a1 : ByteArray) : Option (Int × Int) := if a0.size ≤ 4611686018427387904 ∧ a1.size ≤ 4611686018427387904 then some (cmpR a0 a1) else none
theorem ratio_Compare.calls (a0 : ByteArray) (a1 : ByteArray) (r1 : Int) (r2 : Int) (w : World) (h : ratio_Compare.f a0 a1 = some (r1, r2)) (HT : Aside0 (Tabs w)) :
  Calls Tryz.prog 37 #[.string a0, .string a1] w fun e w' => e = .returned (.tuple #[.int .i64 r1, .int .i64 r2]) ∧ Below w.heap.size w w' := by
 unfold ratio_Compare.f at h
 split at h
 ·rename_i h1
  have h2 := rCompare_calls a0 a1 h1.1 h1.2 w HT.out
  unfold CmpPost at h2
  rw [Option.some.inj h] at h2
  exact h2
 ·cases h
theorem C_map {α β : Type} {d : Kd α} {f : β → α} {w : World} {A : Option Addr} {n : Nat} {xs : List β} (h : Kd.C (Kd.iso d f) w A n xs) : Kd.C d w A n (xs.map f) := by
 refine ⟨by rw [List.length_map]; exact h.1, h.2.1, fun h0 => ?_⟩
 obtain ⟨ad, e, hc⟩ := h.2.2 h0
 refine ⟨ad, e, fun j p hp => ?_⟩
 rw [List.getElem?_map] at hp
 obtain ⟨q, hq, rfl⟩ := Option.map_eq_some_iff.1 hp
 exact hc j q hq
def prs (l : List S60) : List (Int × ByteArray) := l.map fun x => (x.f0, x.f1)
theorem prs_len (l : List S60) : (prs l).length = l.length := List.length_map _
theorem C_prs {w : World} {A : Option Addr} {l : List S60} (h : Kd.C k60 w A l.length l) : Kd.C KP w A (prs l).length (prs l) := by
 rw [prs_len]; exact C_map h
def dist_Check.f (l0 : List S60) : Option Int := if (∀ x ∈ prs l0, x.2.size ≤ 9223372036854775807) then some (dck (prs l0)) else none
theorem dist_Check.calls (A0 : Option Addr) (c0 : Nat) (l0 : List S60) (r : Int) (w : World) (hr0 : Kd.C k60 w A0 l0.length l0) (hc0 : l0.length ≤ c0) (h : dist_Check.f l0 = some r) :
  Calls Tryz.prog 20 #[.slice A0 l0.length c0] w fun e w' => e = .returned (.int .i64 r) ∧ Below w.heap.size w w' := by
 unfold dist_Check.f at h
 split at h
 ·rename_i h1
  cases h
  have := dcheck_calls A0 c0 (prs l0) w (C_prs hr0) (by rw [prs_len]; exact hc0) h1
  rw [prs_len] at this
  exact this
 ·cases h
def dist_Total.f (l0 : List S60) : Option (ByteArray × Int) := if okD (prs l0) then some (totR (prs l0)) else none
theorem dist_Total.calls (A0 : Option Addr) (c0 : Nat) (l0 : List S60) (r1 : ByteArray) (r2 : Int) (w : World) (hr0 : Kd.C k60 w A0 l0.length l0) (hc0 : l0.length ≤ c0) (h : dist_Total.f l0 = some (r1, r2)) (HT : Aside0 (Tabs w)) :
  Calls Tryz.prog 14 #[.slice A0 l0.length c0] w fun e w' => e = .returned (.tuple #[.string r1, .int .i64 r2]) ∧ Below w.heap.size w w' := by
 unfold dist_Total.f at h
 split at h
 ·rename_i h1
  have h2 := total_calls A0 c0 (prs l0) w (C_prs hr0) (by rw [prs_len]; exact hc0) h1 HT.out
  unfold TwoPost at h2
  rw [Option.some.inj h, prs_len] at h2
  exact h2
 ·cases h
def dist_Mean.f (l0 : List S60) : Option (ByteArray × Int) := if okD (prs l0) then some (meanR (prs l0)) else none
theorem dist_Mean.calls (A0 : Option Addr) (c0 : Nat) (l0 : List S60) (r1 : ByteArray) (r2 : Int) (w : World) (hr0 : Kd.C k60 w A0 l0.length l0) (hc0 : l0.length ≤ c0) (h : dist_Mean.f l0 = some (r1, r2)) (HT : Aside0 (Tabs w)) :
  Calls Tryz.prog 16 #[.slice A0 l0.length c0] w fun e w' => e = .returned (.tuple #[.string r1, .int .i64 r2]) ∧ Below w.heap.size w w' := by
 unfold dist_Mean.f at h
 split at h
 ·rename_i h1
  have h2 := mean_calls A0 c0 (prs l0) w (C_prs hr0) (by rw [prs_len]; exact hc0) h1 HT.out
  unfold TwoPost at h2
  rw [Option.some.inj h, prs_len] at h2
  exact h2
 ·cases h
def dist_Variance.f (l0 : List S60) : Option (ByteArray × Int) := if okD (prs l0) then some (varR (prs l0)) else none
theorem dist_Variance.calls (A0 : Option Addr) (c0 : Nat) (l0 : List S60) (r1 : ByteArray) (r2 : Int) (w : World) (hr0 : Kd.C k60 w A0 l0.length l0) (hc0 : l0.length ≤ c0) (h : dist_Variance.f l0 = some (r1, r2)) (HT : Aside0 (Tabs w)) :
  Calls Tryz.prog 18 #[.slice A0 l0.length c0] w fun e w' => e = .returned (.tuple #[.string r1, .int .i64 r2]) ∧ Below w.heap.size w w' := by
 unfold dist_Variance.f at h
 split at h
 ·rename_i h1
  have h2 := var_calls A0 c0 (prs l0) w (C_prs hr0) (by rw [prs_len]; exact hc0) h1 HT.out
  unfold TwoPost at h2
  rw [Option.some.inj h, prs_len] at h2
  exact h2
 ·cases h
def dist_Probability.f (l0 : List S60) (a1_0 a1_1 : Int) : Option (ByteArray × Int) := if okD (prs l0) then some (probR (prs l0) a1_0 a1_1) else none
theorem dist_Probability.calls (A0 : Option Addr) (c0 : Nat) (l0 : List S60) (a1_0 a1_1 : Int) (r1 : ByteArray) (r2 : Int) (w : World) (hr0 : Kd.C k60 w A0 l0.length l0) (hc0 : l0.length ≤ c0) (h : dist_Probability.f l0 a1_0 a1_1 = some (r1, r2)) (HT : Aside0 (Tabs w)) :
  Calls Tryz.prog 10 #[.slice A0 l0.length c0, .agg #[.int .i64 a1_0, .int .i64 a1_1]] w fun e w' => e = .returned (.tuple #[.string r1, .int .i64 r2]) ∧ Below w.heap.size w w' := by
 unfold dist_Probability.f at h
 split at h
 ·rename_i h1
  have h2 := prob_calls a1_0 a1_1 A0 c0 (prs l0) w (C_prs hr0) (by rw [prs_len]; exact hc0) h1 HT.out
  unfold TwoPost at h2
  rw [Option.some.inj h, prs_len] at h2
  exact h2
 ·cases h
end Go.Proofs.YtkdpcgmnkifbbaaGreatDoor.D
end
section
namespace Go.Proofs.YtkdpcgmnkifbbaaGreatDoor.D
open Go.RowKit Go.Proofs.YtkdpcgmnkifbbaaGreatDoorW.PrintWords Go.Proofs.YtkdpcgmnkifbbaaGreatDoorW.PrintLast Go.Proofs.YtkdpcgmnkifbbaaGreatDoorW.PrintMore
attribute [local go_sem] max2_int min2_int max_two min_two max_three min_three max_four min_four
set_option linter.unusedVariables false
set_option linter.unusedSimpArgs false
mutual
def metrolabref26_Few.l0 : Nat → List (S60) → Int → Option (Bool)
 | 0, _, _ => none
 | k + 1, x0, x3 => if x3 < (x0.length : Int) then (metrolabref26_Few.j1 k x0 x3 (decide (x3 < 13))) else (metrolabref26_Few.j1 k x0 x3 false)
def metrolabref26_Few.j1 : Nat → List (S60) → Int → Bool → Option (Bool)
 | 0, _, _, _ => none
 | k + 1, x0, x3, x11 => if x11 = true then (if 0 ≤ x3 then (if x3 < (x0.length : Int) then (if (((rd_T60 x0 x3).f1).size : Int) > 20 then (some false) else (metrolabref26_Few.l0 k x0 (wrap64 (x3 + 1)))) else (none)) else (none)) else (if (x0.length : Int) ≤ 12 then (some true) else (if (x0.length : Int) > 4096 then (some (decide ((x0.length : Int) < 8192))) else (some false)))
end
def metrolabref26_Few.f (k : Nat) (l0 : List (S60)) : Option (Bool) := metrolabref26_Few.l0 k l0 0
set_option maxHeartbeats 8000000 in
set_option maxRecDepth 100000 in
theorem metrolabref26_Few.calls (k : Nat) (A0 : Option Addr) (c0 : Nat) (l0 : List (S60)) (r : Bool) (w : World) (hr0 : Kd.C k60 w A0 l0.length l0) (hc0 : l0.length ≤ c0) (h : metrolabref26_Few.f k l0 = some r) :
  Calls Tryz.prog 7 #[.slice A0 l0.length c0] w fun e w' => e = .returned (.bool r) ∧ Drawn0 w w' := by
 have HR0 := Aside0.mk hr0
 have HC0 := Aside0.mk hc0
 clear hr0 hc0
 have H : (metrolabref26_Few.l0 k l0 0) = some r := h
 clear h
 have H' := Aside0.mk H
 clear H
 go_enter Tryz.func7, Tryz.ntmps7
 go_wp2
 go_loopg [3] k (fun kq v3 w' => ∃ (x3_1 : Int), v3 = .int .i64 x3_1 ∧ Aside0 (metrolabref26_Few.l0 kq l0 x3_1 = some r) ∧ Aside0 (kq ≤ k) ∧ Drawn0 w w')
 case atStart => exact ⟨(0), z25_, H', ⟨Nat.le_refl _⟩, by repeat (first | exact Drawn0.refl _ | apply Drawn0.step)⟩
 case round =>
  clear H'
  obtain ⟨x3_1, rfl, HA, HK1, ⟨m1, rfl⟩⟩ := hrel
  cases gk with
  | zero => exact absurd HA.out (by simp [metrolabref26_Few.l0])
  | succ k1 =>
   have H := HA.out
   clear HA
   simp only [metrolabref26_Few.l0] at H
   have HC2 := Aside0.mk H
   clear H
   go_upto_region 2 with (fail)
   go_cut [11] (fun v11 wc => ∃ (kq : Nat) (x11_1 : Bool), v11 = .bool x11_1 ∧ Aside0 (metrolabref26_Few.j1 kq l0 x3_1 x11_1 = some r) ∧ Aside0 (kq ≤ k1) ∧ Drawn0 w wc)
   case first =>
    have H := HC2.out
    clear HC2
    by_cases c3 : x3_1 < (l0.length : Int)
    ·rw [if_pos c3] at H
     have c3b0 : decide (x3_1 < (l0.length : Int)) = true := decide_eq_true c3
     clear c3
     (first | rw [c3b0] | (simp only [i64_w, i32_w]; rw [c3b0]) | skip)
     have H' := Aside0.mk H
     clear H
     go_wp2
     go_meet
     case rel => exact ⟨_, (decide (x3_1 < 13)), z25_, H', ⟨by have := HK1.out; first | omega | exact Nat.le_refl _⟩, by repeat (first | exact Drawn0.refl _ | apply Drawn0.step)⟩
    ·rw [if_neg c3] at H
     have c3b0 : decide (x3_1 < (l0.length : Int)) = false := decide_eq_false c3
     clear c3
     (first | rw [c3b0] | (simp only [i64_w, i32_w]; rw [c3b0]) | skip)
     have H' := Aside0.mk H
     clear H
     go_wp2
     go_meet
     case rel => exact ⟨_, (false), z25_, H', ⟨by have := HK1.out; first | omega | exact Nat.le_refl _⟩, by repeat (first | exact Drawn0.refl _ | apply Drawn0.step)⟩
   case rest =>
    clear HC2
    try clear p2
    try clear c3
    try clear c3b0
    obtain ⟨kq, x11_1, rfl, HA, HJ1, ⟨mc1, rfl⟩⟩ := hcut
    cases kq with
    | zero => exact absurd HA.out (by simp [metrolabref26_Few.j1])
    | succ kj1 =>
     have H := HA.out
     clear HA
     simp only [metrolabref26_Few.j1] at H
     by_cases c4 : x11_1 = true
     ·subst c4
      rw [if_pos rfl] at H
      by_cases c5 : 0 ≤ x3_1
      ·rw [if_pos c5] at H
       have c5b0 : decide (0 ≤ x3_1) = true := decide_eq_true c5
       clear c5
       by_cases c6 : x3_1 < (l0.length : Int)
       ·rw [if_pos c6] at H
        have c6b0 : decide (x3_1 < (l0.length : Int)) = true := decide_eq_true c6
        clear c6
        by_cases c7 : (((rd_T60 l0 x3_1).f1).size : Int) > 20
        ·rw [if_pos c7] at H
         have c7b0 : decide (20 < (((rd_T60 l0 x3_1).f1).size : Int)) = true := decide_eq_true c7
         have c7b1 : decide (20 < ((rd_T60 l0 x3_1).f1).size) = true := decide_eq_true (by omega)
         clear c7
         obtain rfl := Option.some.inj H
         have p101 : 0 ≤ (x3_1 : Int) := of_decide_eq_true z26_
         have q101 : x3_1 < (l0.length : Int) := of_decide_eq_true z26_
         obtain ⟨ad101, e101, hx101_0, hx101_1⟩ := at_T60 HR0.out x3_1 p101 q101
         cases e101
         replace p101 := eq_true p101
         replace q101 := eq_true q101
         go_wp2
         go_ret
         exact ⟨by first | rfl | (simp; done) | (simp [*]; done), by repeat (first | exact Drawn0.refl _ | apply Drawn0.step)⟩
        ·rw [if_neg c7] at H
         have c7b0 : decide (20 < (((rd_T60 l0 x3_1).f1).size : Int)) = false := decide_eq_false c7
         have c7b1 : decide (20 < ((rd_T60 l0 x3_1).f1).size) = false := decide_eq_false (by omega)
         clear c7
         have H' := Aside0.mk H
         clear H
         have p101 : 0 ≤ (x3_1 : Int) := of_decide_eq_true z26_
         have q101 : x3_1 < (l0.length : Int) := of_decide_eq_true z26_
         obtain ⟨ad101, e101, hx101_0, hx101_1⟩ := at_T60 HR0.out x3_1 p101 q101
         cases e101
         replace p101 := eq_true p101
         replace q101 := eq_true q101
         go_wp2
         go_roundg kj1
         case measure => have := HK1.out; have := HJ1.out; omega
         case rel => exact ⟨(wrap64 (x3_1 + 1)), z25_, H', ⟨by have := HK1.out; have := HJ1.out; omega⟩, by repeat (first | exact Drawn0.refl _ | apply Drawn0.step)⟩
       ·rw [if_neg c6] at H
        exact absurd H (by simp)
      ·rw [if_neg c5] at H
       exact absurd H (by simp)
     ·replace c4 := Bool.eq_false_iff.mpr c4
      subst c4
      rw [if_neg (show ¬ (false = true) by decide)] at H
      by_cases c8 : (l0.length : Int) ≤ 12
      ·rw [if_pos c8] at H
       have c8b0 : decide ((l0.length : Int) ≤ 12) = true := decide_eq_true c8
       have c8b1 : decide (l0.length ≤ 12) = true := decide_eq_true (by omega)
       clear c8
       obtain rfl := Option.some.inj H
       go_wp2
       go_ret
       exact ⟨by first | rfl | (simp; done) | (simp [*]; done), by repeat (first | exact Drawn0.refl _ | apply Drawn0.step)⟩
      ·rw [if_neg c8] at H
       have c8b0 : decide ((l0.length : Int) ≤ 12) = false := decide_eq_false c8
       have c8b1 : decide (l0.length ≤ 12) = false := decide_eq_false (by omega)
       clear c8
       by_cases c9 : (l0.length : Int) > 4096
       ·rw [if_pos c9] at H
        have c9b0 : decide (4096 < (l0.length : Int)) = true := decide_eq_true c9
        have c9b1 : decide (4096 < l0.length) = true := decide_eq_true (by omega)
        clear c9
        obtain rfl := Option.some.inj H
        go_wp2
        go_ret
        exact ⟨by first | rfl | (simp; done) | (simp [*]; done), by repeat (first | exact Drawn0.refl _ | apply Drawn0.step)⟩
       ·rw [if_neg c9] at H
        have c9b0 : decide (4096 < (l0.length : Int)) = false := decide_eq_false c9
        have c9b1 : decide (4096 < l0.length) = false := decide_eq_false (by omega)
        clear c9
        obtain rfl := Option.some.inj H
        go_wp2
        go_ret
        exact ⟨by first | rfl | (simp; done) | (simp [*]; done), by repeat (first | exact Drawn0.refl _ | apply Drawn0.step)⟩
mutual
def dist_Quantile.j0 : Nat → List (S60) → ByteArray → Bool → Option (Int × Int)
 | 0, _, _, _ => none
 | k + 1, x0, x1, x43 => if x43 = true then (some (0, 2)) else (dist_Quantile.l0 k x0 x1 x0 (x0.length : Int) 0)
def dist_Quantile.l0 : Nat → List (S60) → ByteArray → List (S60) → Int → Int → Option (Int × Int)
 | 0, _, _, _, _, _ => none
 | k + 1, x0, x1, x44, x45, x46 => if x46 < x45 then (if 0 ≤ x46 then (if x46 < (x44.length : Int) then ((dist_Probability.f x0 (-1048576) ((rd_T60 x44 x46).f0)).bind fun bt111 => (if bt111.2 = 0 then ((ratio_Compare.f bt111.1 x1).bind fun bt113 => (if bt113.2 = 0 then (if bt113.1 ≥ 0 then (some ((rd_T60 x44 x46).f0, bt113.2)) else (dist_Quantile.l0 k x0 x1 x44 x45 (wrap64 (x46 + 1)))) else (some ((rd_T60 x44 x46).f0, bt113.2)))) else (some (0, bt111.2)))) else (none)) else (none)) else (if 0 ≤ (wrap64 ((x0.length : Int) - 1)) then (if (wrap64 ((x0.length : Int) - 1)) < (x0.length : Int) then (some ((rd_T60 x0 (wrap64 ((x0.length : Int) - 1))).f0, 0)) else (none)) else (none))
end
def dist_Quantile.f (k : Nat) (l0 : List (S60)) (a1 : ByteArray) : Option (Int × Int) := (dist_Check.f l0).bind fun t102 => (if t102 = 0 then ((ratio_Check.f a1).bind fun t103 => (if t103 = 0 then ((ratio_Compare.f a1 (⟨#[48]⟩ : ByteArray)).bind fun bt104 => ((ratio_Compare.f a1 (⟨#[49]⟩ : ByteArray)).bind fun bt106 => (if bt104.1 < 0 then (dist_Quantile.j0 k l0 a1 true) else (dist_Quantile.j0 k l0 a1 (decide (bt106.1 > 0)))))) else (some (0, t103)))) else (some (0, t102)))
set_option maxHeartbeats 8000000 in
set_option maxRecDepth 100000 in
theorem dist_Quantile.calls (k : Nat) (A0 : Option Addr) (c0 : Nat) (l0 : List (S60)) (a1 : ByteArray) (r1 : Int) (r2 : Int) (w : World) (hr0 : Kd.C k60 w A0 l0.length l0) (hc0 : l0.length ≤ c0) (h : dist_Quantile.f k l0 a1 = some (r1, r2)) (HT : Aside0 (Tabs w)) :
  Calls Tryz.prog 12 #[.slice A0 l0.length c0, .string a1] w fun e w' => e = .returned (.tuple #[.int .i64 r1, .int .i64 r2]) ∧ Below w.heap.size w w' := by
 have hu60 := Tryz.underlying60
 have hu24 := Tryz.underlying24
 have HR0 := Aside0.mk hr0
 have HC0 := Aside0.mk hc0
 clear hr0 hc0
 have HB := Aside0.mk (Below.refl w.heap.size w)
 have H : ((dist_Check.f l0).bind fun t102 => (if t102 = 0 then ((ratio_Check.f a1).bind fun t103 => (if t103 = 0 then ((ratio_Compare.f a1 (⟨#[48]⟩ : ByteArray)).bind fun bt104 => ((ratio_Compare.f a1 (⟨#[49]⟩ : ByteArray)).bind fun bt106 => (if bt104.1 < 0 then (dist_Quantile.j0 k l0 a1 true) else (dist_Quantile.j0 k l0 a1 (decide (bt106.1 > 0)))))) else (some (0, t103)))) else (some (0, t102)))) = some (r1, r2) := h
 clear h
 obtain ⟨t102, A3, H⟩ := bindA H
 by_cases c4 : t102 = 0
 ·rw [if_pos c4] at H
  have c4b0 := beq_iff_eq.mpr c4
  have c4b1 := bne_eq_false_iff_eq.mpr c4
  clear c4
  obtain ⟨t103, A5, H⟩ := bindA H
  by_cases c6 : t103 = 0
  ·rw [if_pos c6] at H
   have c6b0 := beq_iff_eq.mpr c6
   have c6b1 := bne_eq_false_iff_eq.mpr c6
   clear c6
   obtain ⟨⟨t104, t105⟩, A7, H⟩ := bindA H
   dsimp only at H
   obtain ⟨⟨t106, t107⟩, A8, H⟩ := bindA H
   dsimp only at H
   have HC9 := Aside0.mk H
   clear H
   go_enter Tryz.func12, Tryz.ntmps12
   go_upto_region 9 with (first | ((with_reducible refine gate_callee (f := 20) rfl ?_); refine goesL_ (some 19) rfl rfl Tryz.func20 (by kernel_rfl) rfl #[.slice A0 l0.length c0] rfl z9_ ?_; (with_reducible refine (dist_Check.calls _ _ l0 t102 _ ?side1 ?side2 A3.out).mono ?_); (case side1 => repeat (first | exact HR0.out | (with_reducible refine Kd.C_alloc ?_ _) | (with_reducible refine Kd.C_drewN ?_ _) | (with_reducible refine Kd.C_drew ?_))); (case side2 => exact HC0.out); rintro e w10 ⟨rfl, hb⟩; refine ⟨_, rfl, ?_⟩; replace HB := Aside0.mk (below_step z10_ hb); clear hb) | (refine gy (f := 36) rfl (some 24) rfl Tryz.func36 (ratio_Check.calls a1 t103 _ A5.out (Aside0.mk (Tabs.below HT.out z4_))) z10_ ?_; clear HB; intro w11 HB) | (refine gy (f := 37) rfl (some 30) rfl Tryz.func37 (ratio_Compare.calls a1 (⟨#[48]⟩ : ByteArray) t104 t105 _ A7.out (Aside0.mk (Tabs.below HT.out z4_))) z10_ ?_; clear HB; intro w12 HB) | (refine gy (f := 37) rfl (some 35) rfl Tryz.func37 (ratio_Compare.calls a1 (⟨#[49]⟩ : ByteArray) t106 t107 _ A8.out (Aside0.mk (Tabs.below HT.out z4_))) z10_ ?_; clear HB; intro w13 HB))
   (try simp only [Act.put, List.setIfInBounds_toArray, List.set_cons_zero, List.set_cons_succ])
   go_cut [43] (fun v43 wc => ∃ (kq : Nat) (x43_8 : Bool), v43 = .bool x43_8 ∧ Aside0 (dist_Quantile.j0 kq l0 a1 x43_8 = some (r1, r2)) ∧ Aside0 (kq ≤ k) ∧ Aside0 (Below w.heap.size w wc))
   case first =>
    have H := HC9.out
    clear HC9
    by_cases c14 : t104 < 0
    ·rw [if_pos c14] at H
     have c14b0 : decide (t104 < 0) = true := decide_eq_true c14
     clear c14
     (first | rw [c14b0] | (simp only [i64_w, i32_w]; rw [c14b0]) | skip)
     have H' := Aside0.mk H
     clear H
     go_wp2
     go_meet
     case rel => exact ⟨_, (true), z25_, H', ⟨by first | omega | exact Nat.le_refl _⟩, ⟨by repeat (first | (with_reducible first | exact HB.out | apply below_alloc | apply pw_below_drewN | apply below_drew1) | exact HB.out)⟩⟩
    ·rw [if_neg c14] at H
     have c14b0 : decide (t104 < 0) = false := decide_eq_false c14
     clear c14
     (first | rw [c14b0] | (simp only [i64_w, i32_w]; rw [c14b0]) | skip)
     have H' := Aside0.mk H
     clear H
     go_wp2
     go_meet
     case rel => exact ⟨_, (decide (t106 > 0)), z25_, H', ⟨by first | omega | exact Nat.le_refl _⟩, ⟨by repeat (first | (with_reducible first | exact HB.out | apply below_alloc | apply pw_below_drewN | apply below_drew1) | exact HB.out)⟩⟩
   case rest =>
    clear HC9
    try clear c1
    try clear c2
    try clear p2
    try clear c3
    try clear c4
    try clear c4b0
    try clear c4b1
    try clear c6
    try clear c6b0
    try clear c6b1
    try clear c12
    try clear c14
    try clear c14b0
    obtain ⟨kq, x43_8, rfl, HA, HJ8, HB⟩ := hcut
    cases kq with
    | zero => exact absurd HA.out (by simp [dist_Quantile.j0])
    | succ kj8 =>
     have H := HA.out
     clear HA
     simp only [dist_Quantile.j0] at H
     by_cases c15 : x43_8 = true
     ·subst c15
      rw [if_pos rfl] at H
      simp only [Option.some.injEq, Prod.mk.injEq] at H
      obtain ⟨rfl, rfl⟩ := H
      go_wp2
      go_ret2
      exact ⟨z24_, z10_⟩
     ·replace c15 := Bool.eq_false_iff.mpr c15
      subst c15
      rw [if_neg (show ¬ (false = true) by decide)] at H
      have H' := Aside0.mk H
      clear H
      go_wp2
      go_loopg [46] kj8 (fun kq v46 w' => ∃ (x46_2 : Int), v46 = .int .i64 x46_2 ∧ Aside0 (dist_Quantile.l0 kq l0 a1 l0 (l0.length : Int) x46_2 = some (r1, r2)) ∧ Aside0 (kq ≤ kj8) ∧ Aside0 (Below w.heap.size w w'))
      case atStart => exact ⟨(0), z25_, H', ⟨Nat.le_refl _⟩, ⟨by repeat (first | (with_reducible first | exact HB.out | apply below_alloc | apply pw_below_drewN | apply below_drew1) | exact HB.out)⟩⟩
      case round =>
       clear H'
       try clear c1
       try clear c2
       try clear p2
       try clear c3
       try clear c4
       try clear c4b0
       try clear c4b1
       try clear c6
       try clear c6b0
       try clear c6b1
       try clear c12
       try clear c14
       try clear c14b0
       try clear c15
       try clear p2
       obtain ⟨x46_2, rfl, HA, HK2, HB⟩ := hrel
       cases gk with
       | zero => exact absurd HA.out (by simp [dist_Quantile.l0])
       | succ k2 =>
        have H := HA.out
        clear HA
        simp only [dist_Quantile.l0] at H
        by_cases c16 : x46_2 < (l0.length : Int)
        ·rw [if_pos c16] at H
         have c16b0 : decide (x46_2 < (l0.length : Int)) = true := decide_eq_true c16
         clear c16
         by_cases c17 : 0 ≤ x46_2
         ·rw [if_pos c17] at H
          have c17b0 : decide (0 ≤ x46_2) = true := decide_eq_true c17
          clear c17
          by_cases c18 : x46_2 < (l0.length : Int)
          ·rw [if_pos c18] at H
           have c18b0 : decide (x46_2 < (l0.length : Int)) = true := decide_eq_true c18
           clear c18
           obtain ⟨⟨t111, t112⟩, A19, H⟩ := bindA H
           dsimp only at H
           by_cases c20 : t112 = 0
           ·rw [if_pos c20] at H
            have c20b0 := beq_iff_eq.mpr c20
            have c20b1 := bne_eq_false_iff_eq.mpr c20
            clear c20
            obtain ⟨⟨t113, t114⟩, A21, H⟩ := bindA H
            dsimp only at H
            by_cases c22 : t114 = 0
            ·rw [if_pos c22] at H
             have c22b0 := beq_iff_eq.mpr c22
             have c22b1 := bne_eq_false_iff_eq.mpr c22
             clear c22
             by_cases c23 : t113 ≥ 0
             ·rw [if_pos c23] at H
              have c23b0 : decide (0 ≤ t113) = true := decide_eq_true c23
              clear c23
              simp only [Option.some.injEq, Prod.mk.injEq] at H
              obtain ⟨rfl, rfl⟩ := H
              have p109 : 0 ≤ (x46_2 : Int) := of_decide_eq_true z26_
              have q109 : x46_2 < (l0.length : Int) := of_decide_eq_true z26_
              obtain ⟨ad109, e109, hx109_0, hx109_1⟩ := at_T60 HR0.out x46_2 p109 q109
              cases e109
              replace hx109_0 := (HB.out.cell (World.block_lt_of_cell? w _ hx109_0)).trans hx109_0
              replace hx109_1 := (HB.out.cell (World.block_lt_of_cell? w _ hx109_1)).trans hx109_1
              replace p109 := eq_true p109
              replace q109 := eq_true q109
              go_wp2_with (first | ((with_reducible refine gate_dst (N := 13) rfl ?_); refine box_event ?hg (N := 13) ?hd (cs := #[.int .i64 0, .string (⟨#[]⟩ : ByteArray)]) (t := 60) ?hr ?_; (case hd => rfl); (case hg => rfl); (case hr => first | (go_simp; done) | (go_simp; rfl)); intro gb110 hg w24 hbox hb; have n0_ := Aside0.mk (below_step z10_ hb); have n1_ := Aside0.mk (hbox); have n2_ := Aside0.mk ((by rw [hg]; exact (below_size z10_) : w.heap.size ≤ gb110)); have n3_ := Aside0.mk ((by rw [hg]; exact (below_size z10_) : w.heap.size ≤ gb110)); clear HB; have HB := n0_; have BK110 := n1_; have GW110 := n2_; have GE110 := n3_; clear n0_ n1_ n2_ n3_; clear hb hbox hg; have hcz25_0 : w24.cell? ⟨gb110, 0, none⟩ = some (.int .i64 0) := (blk_cell BK110.out 0).trans rfl; have hcz25_1 : w24.cell? ⟨gb110, 1, none⟩ = some (.string (⟨#[]⟩ : ByteArray)) := (blk_cell BK110.out 1).trans rfl; have hfz25_0 := blk_frozen BK110.out 0; have hfz25_1 := blk_frozen BK110.out 1) | ((with_reducible refine gate_callee (f := 10) rfl ?_); refine goesL_ (some 55) rfl rfl Tryz.func10 (by kernel_rfl) rfl #[.slice (some ad109) l0.length c0, .agg #[.int .i64 (-1048576), .int .i64 ((rd_T60 l0 x46_2).f0)]] rfl z9_ ?_; (with_reducible refine (dist_Probability.calls _ _ l0 (-1048576) ((rd_T60 l0 x46_2).f0) t111 t112 _ ?side1 ?side2 A19.out (Aside0.mk (Tabs.below HT.out z4_))).mono ?_); (case side1 => exact Kd.C_below HR0.out z6_); (case side2 => exact HC0.out); rintro e w26 ⟨rfl, hb⟩; refine ⟨_, rfl, ?_⟩; have n0_ := Aside0.mk (blk_below (g := gb110) (o := .cells #[.int .i64 ((rd_T60 l0 x46_2).f0), .string ((rd_T60 l0 x46_2).f1)] 60 (0, 0)) z3_ hb); have n1_ := Aside0.mk (below_step z6_ hb); clear BK110; clear HB; have BK110 := n0_; have HB := n1_; clear n0_ n1_; (try clear hb); (try clear hb2); (try clear hk); (try clear hi)) | (refine gz (f := 37) rfl (some 64) rfl Tryz.func37 (ratio_Compare.calls t111 a1 t113 t114 _ A21.out (Aside0.mk (Tabs.below HT.out z4_))) ?_; rintro w27 hb; have n0_ := Aside0.mk (blk_below (g := gb110) (o := .cells #[.int .i64 ((rd_T60 l0 x46_2).f0), .string ((rd_T60 l0 x46_2).f1)] 60 (0, 0)) (by (with_reducible repeat (first | refine blk_drewN ?_ _ | refine blk_drew ?_ | refine blk_alloc ?_ _)); exact BK110.out) hb); have n1_ := Aside0.mk (below_step z6_ hb); clear BK110; clear HB; have BK110 := n0_; have HB := n1_; clear n0_ n1_; (try clear hb); (try clear hb2); (try clear hk); (try clear hi); have hcz28_0 : w27.cell? ⟨gb110, 0, none⟩ = some (.int .i64 ((rd_T60 l0 x46_2).f0)) := (blk_cell BK110.out 0).trans rfl; have hcz28_1 : w27.cell? ⟨gb110, 1, none⟩ = some (.string ((rd_T60 l0 x46_2).f1)) := (blk_cell BK110.out 1).trans rfl; have hfz28_0 := blk_frozen BK110.out 0; have hfz28_1 := blk_frozen BK110.out 1))
              go_ret2
              exact ⟨z24_, by repeat (first | (with_reducible first | exact HB.out | apply below_alloc | apply pw_below_drewN | apply below_drew1 | refine Go.Proofs.YtkdpcgmnkifbbaaGreatDoorW.PrintWords.below_set ?_ GE110.out) | exact HB.out)⟩
             ·rw [if_neg c23] at H
              have c23b0 : decide (0 ≤ t113) = false := decide_eq_false c23
              clear c23
              have H' := Aside0.mk H
              clear H
              have p109 : 0 ≤ (x46_2 : Int) := of_decide_eq_true z26_
              have q109 : x46_2 < (l0.length : Int) := of_decide_eq_true z26_
              obtain ⟨ad109, e109, hx109_0, hx109_1⟩ := at_T60 HR0.out x46_2 p109 q109
              cases e109
              replace hx109_0 := (HB.out.cell (World.block_lt_of_cell? w _ hx109_0)).trans hx109_0
              replace hx109_1 := (HB.out.cell (World.block_lt_of_cell? w _ hx109_1)).trans hx109_1
              replace p109 := eq_true p109
              replace q109 := eq_true q109
              go_wp2_with (first | ((with_reducible refine gate_dst (N := 13) rfl ?_); refine box_event ?hg (N := 13) ?hd (cs := #[.int .i64 0, .string (⟨#[]⟩ : ByteArray)]) (t := 60) ?hr ?_; (case hd => rfl); (case hg => rfl); (case hr => first | (go_simp; done) | (go_simp; rfl)); intro gb110 hg w29 hbox hb; have n0_ := Aside0.mk (below_step z10_ hb); have n1_ := Aside0.mk (hbox); have n2_ := Aside0.mk ((by rw [hg]; exact (below_size z10_) : w.heap.size ≤ gb110)); have n3_ := Aside0.mk ((by rw [hg]; exact (below_size z10_) : w.heap.size ≤ gb110)); clear HB; have HB := n0_; have BK110 := n1_; have GW110 := n2_; have GE110 := n3_; clear n0_ n1_ n2_ n3_; clear hb hbox hg; have hcz30_0 : w29.cell? ⟨gb110, 0, none⟩ = some (.int .i64 0) := (blk_cell BK110.out 0).trans rfl; have hcz30_1 : w29.cell? ⟨gb110, 1, none⟩ = some (.string (⟨#[]⟩ : ByteArray)) := (blk_cell BK110.out 1).trans rfl; have hfz30_0 := blk_frozen BK110.out 0; have hfz30_1 := blk_frozen BK110.out 1) | ((with_reducible refine gate_callee (f := 10) rfl ?_); refine goesL_ (some 55) rfl rfl Tryz.func10 (by kernel_rfl) rfl #[.slice (some ad109) l0.length c0, .agg #[.int .i64 (-1048576), .int .i64 ((rd_T60 l0 x46_2).f0)]] rfl z9_ ?_; (with_reducible refine (dist_Probability.calls _ _ l0 (-1048576) ((rd_T60 l0 x46_2).f0) t111 t112 _ ?side1 ?side2 A19.out (Aside0.mk (Tabs.below HT.out z4_))).mono ?_); (case side1 => exact Kd.C_below HR0.out z6_); (case side2 => exact HC0.out); rintro e w31 ⟨rfl, hb⟩; refine ⟨_, rfl, ?_⟩; have n0_ := Aside0.mk (blk_below (g := gb110) (o := .cells #[.int .i64 ((rd_T60 l0 x46_2).f0), .string ((rd_T60 l0 x46_2).f1)] 60 (0, 0)) z3_ hb); have n1_ := Aside0.mk (below_step z6_ hb); clear BK110; clear HB; have BK110 := n0_; have HB := n1_; clear n0_ n1_; (try clear hb); (try clear hb2); (try clear hk); (try clear hi)) | (refine gz (f := 37) rfl (some 64) rfl Tryz.func37 (ratio_Compare.calls t111 a1 t113 t114 _ A21.out (Aside0.mk (Tabs.below HT.out z4_))) ?_; rintro w32 hb; have n0_ := Aside0.mk (blk_below (g := gb110) (o := .cells #[.int .i64 ((rd_T60 l0 x46_2).f0), .string ((rd_T60 l0 x46_2).f1)] 60 (0, 0)) (by (with_reducible repeat (first | refine blk_drewN ?_ _ | refine blk_drew ?_ | refine blk_alloc ?_ _)); exact BK110.out) hb); have n1_ := Aside0.mk (below_step z6_ hb); clear BK110; clear HB; have BK110 := n0_; have HB := n1_; clear n0_ n1_; (try clear hb); (try clear hb2); (try clear hk); (try clear hi)))
              go_roundg k2
              case measure => have := HJ8.out; have := HK2.out; omega
              case rel => exact ⟨(wrap64 (x46_2 + 1)), z25_, H', ⟨by have := HJ8.out; have := HK2.out; omega⟩, ⟨by repeat (first | (with_reducible first | exact HB.out | apply below_alloc | apply pw_below_drewN | apply below_drew1 | refine Go.Proofs.YtkdpcgmnkifbbaaGreatDoorW.PrintWords.below_set ?_ GE110.out) | exact HB.out)⟩⟩
            ·rw [if_neg c22] at H
             have c22b0 := beq_eq_false_iff_ne.mpr c22
             have c22b1 := bne_iff_ne.mpr c22
             simp only [Option.some.injEq, Prod.mk.injEq] at H
             obtain ⟨rfl, rfl⟩ := H
             have p109 : 0 ≤ (x46_2 : Int) := of_decide_eq_true z26_
             have q109 : x46_2 < (l0.length : Int) := of_decide_eq_true z26_
             obtain ⟨ad109, e109, hx109_0, hx109_1⟩ := at_T60 HR0.out x46_2 p109 q109
             cases e109
             replace hx109_0 := (HB.out.cell (World.block_lt_of_cell? w _ hx109_0)).trans hx109_0
             replace hx109_1 := (HB.out.cell (World.block_lt_of_cell? w _ hx109_1)).trans hx109_1
             replace p109 := eq_true p109
             replace q109 := eq_true q109
             go_wp2_with (first | ((with_reducible refine gate_dst (N := 13) rfl ?_); refine box_event ?hg (N := 13) ?hd (cs := #[.int .i64 0, .string (⟨#[]⟩ : ByteArray)]) (t := 60) ?hr ?_; (case hd => rfl); (case hg => rfl); (case hr => first | (go_simp; done) | (go_simp; rfl)); intro gb110 hg w33 hbox hb; have n0_ := Aside0.mk (below_step z10_ hb); have n1_ := Aside0.mk (hbox); have n2_ := Aside0.mk ((by rw [hg]; exact (below_size z10_) : w.heap.size ≤ gb110)); have n3_ := Aside0.mk ((by rw [hg]; exact (below_size z10_) : w.heap.size ≤ gb110)); clear HB; have HB := n0_; have BK110 := n1_; have GW110 := n2_; have GE110 := n3_; clear n0_ n1_ n2_ n3_; clear hb hbox hg; have hcz34_0 : w33.cell? ⟨gb110, 0, none⟩ = some (.int .i64 0) := (blk_cell BK110.out 0).trans rfl; have hcz34_1 : w33.cell? ⟨gb110, 1, none⟩ = some (.string (⟨#[]⟩ : ByteArray)) := (blk_cell BK110.out 1).trans rfl; have hfz34_0 := blk_frozen BK110.out 0; have hfz34_1 := blk_frozen BK110.out 1) | ((with_reducible refine gate_callee (f := 10) rfl ?_); refine goesL_ (some 55) rfl rfl Tryz.func10 (by kernel_rfl) rfl #[.slice (some ad109) l0.length c0, .agg #[.int .i64 (-1048576), .int .i64 ((rd_T60 l0 x46_2).f0)]] rfl z9_ ?_; (with_reducible refine (dist_Probability.calls _ _ l0 (-1048576) ((rd_T60 l0 x46_2).f0) t111 t112 _ ?side1 ?side2 A19.out (Aside0.mk (Tabs.below HT.out z4_))).mono ?_); (case side1 => exact Kd.C_below HR0.out z6_); (case side2 => exact HC0.out); rintro e w35 ⟨rfl, hb⟩; refine ⟨_, rfl, ?_⟩; have n0_ := Aside0.mk (blk_below (g := gb110) (o := .cells #[.int .i64 ((rd_T60 l0 x46_2).f0), .string ((rd_T60 l0 x46_2).f1)] 60 (0, 0)) z3_ hb); have n1_ := Aside0.mk (below_step z6_ hb); clear BK110; clear HB; have BK110 := n0_; have HB := n1_; clear n0_ n1_; (try clear hb); (try clear hb2); (try clear hk); (try clear hi)) | (refine gz (f := 37) rfl (some 64) rfl Tryz.func37 (ratio_Compare.calls t111 a1 t113 t114 _ A21.out (Aside0.mk (Tabs.below HT.out z4_))) ?_; rintro w36 hb; have n0_ := Aside0.mk (blk_below (g := gb110) (o := .cells #[.int .i64 ((rd_T60 l0 x46_2).f0), .string ((rd_T60 l0 x46_2).f1)] 60 (0, 0)) (by (with_reducible repeat (first | refine blk_drewN ?_ _ | refine blk_drew ?_ | refine blk_alloc ?_ _)); exact BK110.out) hb); have n1_ := Aside0.mk (below_step z6_ hb); clear BK110; clear HB; have BK110 := n0_; have HB := n1_; clear n0_ n1_; (try clear hb); (try clear hb2); (try clear hk); (try clear hi); have hcz37_0 : w36.cell? ⟨gb110, 0, none⟩ = some (.int .i64 ((rd_T60 l0 x46_2).f0)) := (blk_cell BK110.out 0).trans rfl; have hcz37_1 : w36.cell? ⟨gb110, 1, none⟩ = some (.string ((rd_T60 l0 x46_2).f1)) := (blk_cell BK110.out 1).trans rfl; have hfz37_0 := blk_frozen BK110.out 0; have hfz37_1 := blk_frozen BK110.out 1))
             go_ret2
             exact ⟨z24_, by repeat (first | (with_reducible first | exact HB.out | apply below_alloc | apply pw_below_drewN | apply below_drew1 | refine Go.Proofs.YtkdpcgmnkifbbaaGreatDoorW.PrintWords.below_set ?_ GE110.out) | exact HB.out)⟩
           ·rw [if_neg c20] at H
            have c20b0 := beq_eq_false_iff_ne.mpr c20
            have c20b1 := bne_iff_ne.mpr c20
            simp only [Option.some.injEq, Prod.mk.injEq] at H
            obtain ⟨rfl, rfl⟩ := H
            have p109 : 0 ≤ (x46_2 : Int) := of_decide_eq_true z26_
            have q109 : x46_2 < (l0.length : Int) := of_decide_eq_true z26_
            obtain ⟨ad109, e109, hx109_0, hx109_1⟩ := at_T60 HR0.out x46_2 p109 q109
            cases e109
            replace hx109_0 := (HB.out.cell (World.block_lt_of_cell? w _ hx109_0)).trans hx109_0
            replace hx109_1 := (HB.out.cell (World.block_lt_of_cell? w _ hx109_1)).trans hx109_1
            replace p109 := eq_true p109
            replace q109 := eq_true q109
            go_wp2_with (first | ((with_reducible refine gate_dst (N := 13) rfl ?_); refine box_event ?hg (N := 13) ?hd (cs := #[.int .i64 0, .string (⟨#[]⟩ : ByteArray)]) (t := 60) ?hr ?_; (case hd => rfl); (case hg => rfl); (case hr => first | (go_simp; done) | (go_simp; rfl)); intro gb110 hg w38 hbox hb; have n0_ := Aside0.mk (below_step z10_ hb); have n1_ := Aside0.mk (hbox); have n2_ := Aside0.mk ((by rw [hg]; exact (below_size z10_) : w.heap.size ≤ gb110)); have n3_ := Aside0.mk ((by rw [hg]; exact (below_size z10_) : w.heap.size ≤ gb110)); clear HB; have HB := n0_; have BK110 := n1_; have GW110 := n2_; have GE110 := n3_; clear n0_ n1_ n2_ n3_; clear hb hbox hg; have hcz39_0 : w38.cell? ⟨gb110, 0, none⟩ = some (.int .i64 0) := (blk_cell BK110.out 0).trans rfl; have hcz39_1 : w38.cell? ⟨gb110, 1, none⟩ = some (.string (⟨#[]⟩ : ByteArray)) := (blk_cell BK110.out 1).trans rfl; have hfz39_0 := blk_frozen BK110.out 0; have hfz39_1 := blk_frozen BK110.out 1) | ((with_reducible refine gate_callee (f := 10) rfl ?_); refine goesL_ (some 55) rfl rfl Tryz.func10 (by kernel_rfl) rfl #[.slice (some ad109) l0.length c0, .agg #[.int .i64 (-1048576), .int .i64 ((rd_T60 l0 x46_2).f0)]] rfl z9_ ?_; (with_reducible refine (dist_Probability.calls _ _ l0 (-1048576) ((rd_T60 l0 x46_2).f0) t111 t112 _ ?side1 ?side2 A19.out (Aside0.mk (Tabs.below HT.out z4_))).mono ?_); (case side1 => exact Kd.C_below HR0.out z6_); (case side2 => exact HC0.out); rintro e w40 ⟨rfl, hb⟩; refine ⟨_, rfl, ?_⟩; have n0_ := Aside0.mk (blk_below (g := gb110) (o := .cells #[.int .i64 ((rd_T60 l0 x46_2).f0), .string ((rd_T60 l0 x46_2).f1)] 60 (0, 0)) z3_ hb); have n1_ := Aside0.mk (below_step z6_ hb); clear BK110; clear HB; have BK110 := n0_; have HB := n1_; clear n0_ n1_; (try clear hb); (try clear hb2); (try clear hk); (try clear hi)))
            go_ret2
            exact ⟨z24_, by repeat (first | (with_reducible first | exact HB.out | apply below_alloc | apply pw_below_drewN | apply below_drew1 | refine Go.Proofs.YtkdpcgmnkifbbaaGreatDoorW.PrintWords.below_set ?_ GE110.out) | exact HB.out)⟩
          ·rw [if_neg c18] at H
           exact absurd H (by simp)
         ·rw [if_neg c17] at H
          exact absurd H (by simp)
        ·rw [if_neg c16] at H
         have c16b0 : decide (x46_2 < (l0.length : Int)) = false := decide_eq_false c16
         clear c16
         obtain ⟨ji41, hji41⟩ : ∃ j_ : Int, (wrap64 ((l0.length : Int) - 1)) = j_ := ⟨_, rfl⟩
         replace H : (if 0 ≤ (ji41) then (if (ji41) < (l0.length : Int) then (some ((rd_T60 l0 (ji41)).f0, 0)) else (none)) else (none)) = some (r1, r2) := by first | (rw [hji41] at H; exact H) | (simp only [hji41] at H ⊢; exact H)
         have hji41w : (IntKind.i64.wrap ((l0.length : Int) - 1)) = ji41 := (i64_w _).trans hji41
         by_cases c42 : 0 ≤ (ji41)
         ·rw [if_pos c42] at H
          have c42b0 : decide (0 ≤ (ji41)) = true := decide_eq_true c42
          clear c42
          by_cases c43 : (ji41) < (l0.length : Int)
          ·rw [if_pos c43] at H
           have c43b0 : decide ((ji41) < (l0.length : Int)) = true := decide_eq_true c43
           clear c43
           simp only [Option.some.injEq, Prod.mk.injEq] at H
           obtain ⟨rfl, rfl⟩ := H
           have p108 : 0 ≤ ((ji41) : Int) := of_decide_eq_true z26_
           have q108 : (ji41) < (l0.length : Int) := of_decide_eq_true z26_
           obtain ⟨ad108, e108, hx108_0, hx108_1⟩ := at_T60 HR0.out (ji41) p108 q108
           cases e108
           replace hx108_0 := (HB.out.cell (World.block_lt_of_cell? w _ hx108_0)).trans hx108_0
           replace hx108_1 := (HB.out.cell (World.block_lt_of_cell? w _ hx108_1)).trans hx108_1
           replace p108 := eq_true p108
           replace q108 := eq_true q108
           go_wp2
           go_ret2
           exact ⟨by first | rfl | (simp [errW_none, errW_some] <;> rfl) | (simp only [← hji41]; first | rfl | (simp [errW_none, errW_some] <;> rfl)) | (simp [*, errW_none, errW_some] <;> rfl), z10_⟩
          ·rw [if_neg c43] at H
           exact absurd H (by simp)
         ·rw [if_neg c42] at H
          exact absurd H (by simp)
  ·rw [if_neg c6] at H
   have c6b0 := beq_eq_false_iff_ne.mpr c6
   have c6b1 := bne_iff_ne.mpr c6
   simp only [Option.some.injEq, Prod.mk.injEq] at H
   obtain ⟨rfl, rfl⟩ := H
   go_enter Tryz.func12, Tryz.ntmps12
   go_wp2_with (first | ((with_reducible refine gate_callee (f := 20) rfl ?_); refine goesL_ (some 19) rfl rfl Tryz.func20 (by kernel_rfl) rfl #[.slice A0 l0.length c0] rfl z9_ ?_; (with_reducible refine (dist_Check.calls _ _ l0 t102 _ ?side1 ?side2 A3.out).mono ?_); (case side1 => repeat (first | exact HR0.out | (with_reducible refine Kd.C_alloc ?_ _) | (with_reducible refine Kd.C_drewN ?_ _) | (with_reducible refine Kd.C_drew ?_))); (case side2 => exact HC0.out); rintro e w44 ⟨rfl, hb⟩; refine ⟨_, rfl, ?_⟩; replace HB := Aside0.mk (below_step z10_ hb); clear hb) | (refine gy (f := 36) rfl (some 24) rfl Tryz.func36 (ratio_Check.calls a1 t103 _ A5.out (Aside0.mk (Tabs.below HT.out z4_))) z10_ ?_; clear HB; intro w45 HB))
   go_ret2
   exact ⟨z24_, z10_⟩
 ·rw [if_neg c4] at H
  have c4b0 := beq_eq_false_iff_ne.mpr c4
  have c4b1 := bne_iff_ne.mpr c4
  simp only [Option.some.injEq, Prod.mk.injEq] at H
  obtain ⟨rfl, rfl⟩ := H
  go_enter Tryz.func12, Tryz.ntmps12
  go_wp2_with (first | ((with_reducible refine gate_callee (f := 20) rfl ?_); refine goesL_ (some 19) rfl rfl Tryz.func20 (by kernel_rfl) rfl #[.slice A0 l0.length c0] rfl z9_ ?_; (with_reducible refine (dist_Check.calls _ _ l0 t102 _ ?side1 ?side2 A3.out).mono ?_); (case side1 => repeat (first | exact HR0.out | (with_reducible refine Kd.C_alloc ?_ _) | (with_reducible refine Kd.C_drewN ?_ _) | (with_reducible refine Kd.C_drew ?_))); (case side2 => exact HC0.out); rintro e w46 ⟨rfl, hb⟩; refine ⟨_, rfl, ?_⟩; replace HB := Aside0.mk (below_step z10_ hb); clear hb))
  go_ret2
  exact ⟨z24_, z10_⟩
end Go.Proofs.YtkdpcgmnkifbbaaGreatDoor.D
end
