/- Joined by a program of this session out of its texts, with only what the last theorem needs: Sem. No conditions but those stated. -/
import Derived.Test.YtkdpcgmnkifbbaaGreatDoorZC02
import Derived.Lib.SlTrimSet
import Derived.Lib.Strings
set_option linter.unusedVariables false
set_option linter.unusedSimpArgs false
namespace Go.Proofs.YtkdpcgmnkifbbaaGreatDoor
theorem revInd {P : List UInt8 → Prop} (nil : P []) (append : ∀ l c, P l → P (l ++ [c])) (l : List UInt8) : P l := by
 have h : ∀ l : List UInt8, P l.reverse := by
  intro l
  induction l with
  | nil => exact nil
  | cons c t ih => rw [List.reverse_cons]; exact append _ _ ih
 have := h l.reverse
 rwa [List.reverse_reverse] at this
def digs (l : List UInt8) : List UInt8 := if l.head? = some 45 then l.tail else l
def isDig (c : UInt8) : Bool := decide (48 ≤ c.toNat) && decide (c.toNat ≤ 57)
def dnat (l : List UInt8) : Nat := l.foldl (fun m c => 10 * m + (c.toNat - 48)) 0
def ival (a : ByteArray) : Int := if a.data.toList.head? = some 45 then -(dnat (digs a.data.toList) : Int) else dnat (digs a.data.toList)
def goodD (d : List UInt8) : Bool := !d.isEmpty && d.all isDig && (d.head? != some 48 || d.length == 1)
def form (l : List UInt8) : Bool := goodD (digs l) && !(l.head? == some 45 && (digs l).head? == some 48)
def chk (a : ByteArray) : Int := if form a.data.toList then (if (digs a.data.toList).length > 1024 then 11 else 0) else 3
def lim : Nat := 1024
def fits (v : Int) : Prop := v.natAbs < 10 ^ lim
instance (v : Int) : Decidable (fits v) := inferInstanceAs (Decidable (_ < _))
theorem dig_of (u : Nat) (h : u < 10) : (UInt8.ofNat (48 + u)).toNat = 48 + u := by
 show (UInt8.ofNat (48 + u)).toNat = 48 + u
 rw [UInt8.toNat_ofNat']; omega
theorem head_app {l : List UInt8} (m : List UInt8) (h : l ≠ []) : (l ++ m).head? = l.head? := by
 cases l with
 | nil => exact absurd rfl h
 | cons a t => rfl
theorem dnat_append (l : List UInt8) (c : UInt8) : dnat (l ++ [c]) = 10 * dnat l + (c.toNat - 48) := by simp [dnat]
theorem dnat_dd (u : Nat) : dnat (Lib.decDigits u) = u := by
 induction u using Nat.strongRecOn with
 | _ u ih =>
  by_cases h : u < 10
  ·rw [dd_small h, show dnat [UInt8.ofNat (48 + u)] = 10 * 0 + ((UInt8.ofNat (48 + u)).toNat - 48) from rfl, dig_of u h]; omega
  ·rw [dd_big h, dnat_append, ih _ (by omega), dig_of _ (Nat.mod_lt _ (by decide))]; omega
theorem isDig_of (u : Nat) (h : u < 10) : isDig (UInt8.ofNat (48 + u)) = true := by
 unfold isDig; rw [dig_of u h]; simp; omega
theorem dd_all (u : Nat) : (Lib.decDigits u).all isDig = true := by
 induction u using Nat.strongRecOn with
 | _ u ih =>
  by_cases h : u < 10
  ·rw [dd_small h, List.all_cons, isDig_of u h]; rfl
  ·rw [dd_big h, List.all_append, ih _ (by omega), List.all_cons, isDig_of _ (Nat.mod_lt u (show 0 < 10 by decide))]; rfl
theorem dd_head (u : Nat) (h : 0 < u) : (Lib.decDigits u).head? ≠ some 48 := by
 induction u using Nat.strongRecOn with
 | _ u ih =>
  by_cases h10 : u < 10
  ·rw [dd_small h10]
   intro h1
   have : (UInt8.ofNat (48 + u)).toNat = 48 := by rw [List.head?_cons] at h1; rw [Option.some.inj h1]; rfl
   rw [dig_of u h10] at this; omega
  ·rw [dd_big h10, head_app _ (dd_ne_nil _)]
   exact ih _ (by omega) (by omega)
theorem dd_zero : Lib.decDigits 0 = [48] := by rw [dd_small (by decide)]; rfl
theorem dd_head45 (u : Nat) : (Lib.decDigits u).head? ≠ some 45 := by
 intro h
 have h1 := dd_all u
 obtain ⟨t, ht⟩ : ∃ t, Lib.decDigits u = 45 :: t := by
  cases hl : Lib.decDigits u with
  | nil => exact absurd hl (dd_ne_nil u)
  | cons a t => rw [hl] at h; simp at h; exact ⟨t, by rw [h]⟩
 rw [ht] at h1; simp [isDig] at h1
theorem goodD_dd (u : Nat) : goodD (Lib.decDigits u) = true := by
 unfold goodD
 rw [dd_all]
 rcases Nat.eq_zero_or_pos u with h | h
 ·subst h; rw [dd_zero]; rfl
 ·simp [dd_head u h, dd_ne_nil u]
theorem isDig_val {c : UInt8} (h : isDig c = true) : ∃ u, u < 10 ∧ c = UInt8.ofNat (48 + u) ∧ c.toNat - 48 = u := by
 unfold isDig at h
 simp only [Bool.and_eq_true, decide_eq_true_eq] at h
 refine ⟨c.toNat - 48, by omega, ?_, rfl⟩
 apply UInt8.toNat_inj.1
 rw [dig_of _ (by omega)]; omega
theorem dnat_pos {d : List UInt8} (h1 : d.all isDig = true) (h2 : d ≠ []) (h3 : d.head? ≠ some 48) : 0 < dnat d := by
 induction d using revInd with
 | nil => exact absurd rfl h2
 | append l c ih =>
  rw [dnat_append]
  rw [List.all_append, Bool.and_eq_true] at h1
  by_cases hl : l = []
  ·subst hl
   simp at h1 h3
   obtain ⟨u, hu, hc, hv⟩ := isDig_val h1
   rw [hv]
   rcases Nat.eq_zero_or_pos u with h0 | h0
   ·subst h0; exact absurd hc h3
   ·omega
  ·rw [head_app _ hl] at h3
   have := ih h1.1 hl h3; omega
theorem dd_dnat {d : List UInt8} (h : goodD d = true) : Lib.decDigits (dnat d) = d := by
 unfold goodD at h
 simp only [Bool.and_eq_true, Bool.or_eq_true, bne_iff_ne, beq_iff_eq, Bool.not_eq_true', List.isEmpty_eq_false_iff] at h
 obtain ⟨⟨h1, h2⟩, h3⟩ := h
 have key : ∀ d : List UInt8, d.all isDig = true → d ≠ [] → (d.head? ≠ some 48 ∨ d.length = 1) → Lib.decDigits (dnat d) = d := by
  intro d
  induction d using revInd with
  | nil => intro _ h _; exact absurd rfl h
  | append l c ih =>
   intro h1 h2 h3
   rw [List.all_append, Bool.and_eq_true] at h1
   obtain ⟨u, hu, hc, hv⟩ := isDig_val (by simpa using h1.2)
   rw [dnat_append, hv]
   by_cases hl : l = []
   ·subst hl
    rw [show dnat [] = 0 by rfl, dd_small (by omega), hc]; simp
   ·have h4 : l.head? ≠ some 48 := by
     rcases h3 with h3 | h3
     ·rwa [head_app _ hl] at h3
     ·have : 0 < l.length := List.length_pos_iff.2 hl
      simp at h3; exact absurd h3 hl
    have hp := dnat_pos h1.1 hl h4
    rw [dd_big (by omega), show (10 * dnat l + u) / 10 = dnat l by omega, show (10 * dnat l + u) % 10 = u by omega, ih h1.1 hl (.inl h4), hc]
 exact key d h2 h1 h3
theorem dd_le_iff (u k : Nat) : (Lib.decDigits u).length ≤ k + 1 ↔ u < 10 ^ (k + 1) := by
 constructor
 ·intro h
  have key : ∀ u : Nat, u < 10 ^ (Lib.decDigits u).length := by
   intro u
   induction u using Nat.strongRecOn with
   | _ u ih =>
    by_cases h : u < 10
    ·rw [dd_small h]; simpa using h
    ·rw [dd_big h, List.length_append, List.length_singleton, Nat.pow_succ]
     have := ih (u / 10) (by omega)
     omega
  exact Nat.lt_of_lt_of_le (key u) (Nat.pow_le_pow_right (by decide) h)
 ·intro h; exact (pad_eq k u h).1
theorem itx_digs (v : Int) : digs (itx v).data.toList = Lib.decDigits v.natAbs := by
 rw [itx_list]; unfold Lib.itoa digs
 by_cases h : v < 0
 ·rw [if_pos h]; simp
 ·rw [if_neg h, if_neg (dd_head45 _)]; congr 1; omega
theorem itx_head (v : Int) : ((itx v).data.toList.head? = some 45) ↔ v < 0 := by
 rw [itx_list]; unfold Lib.itoa
 by_cases h : v < 0
 ·simp [h]
 ·simp only [if_neg h, h, iff_false]; exact dd_head45 _
theorem ival_itx (v : Int) : ival (itx v) = v := by
 unfold ival
 rw [itx_digs, dnat_dd]
 by_cases h : v < 0
 ·rw [if_pos ((itx_head v).2 h)]; omega
 ·rw [if_neg (fun h1 => h ((itx_head v).1 h1))]; omega
theorem form_itx (v : Int) : form (itx v).data.toList = true := by
 unfold form
 rw [itx_digs, goodD_dd]
 by_cases h : v < 0
 ·have := dd_head v.natAbs (by omega)
  simp [this]
 ·have : (itx v).data.toList.head? ≠ some 45 := fun h1 => h ((itx_head v).1 h1)
  simp [this]
theorem itx_inj {u v : Int} (h : itx u = itx v) : u = v := by rw [← ival_itx u, h, ival_itx]
theorem fits_iff (v : Int) : fits v ↔ (Lib.decDigits v.natAbs).length ≤ 1024 := by
 have key : ∀ k, k = lim → 0 < k → (v.natAbs < 10 ^ k ↔ (Lib.decDigits v.natAbs).length ≤ k) := by
  intro k _ h
  obtain ⟨j, rfl⟩ : ∃ j, k = j + 1 := ⟨k - 1, by omega⟩
  exact (dd_le_iff v.natAbs j).symm
 exact key lim rfl (by decide)
theorem chk_itx (v : Int) : chk (itx v) = if fits v then 0 else 11 := by
 unfold chk
 rw [form_itx, itx_digs, if_pos rfl]
 by_cases h : fits v
 ·rw [if_pos h, if_neg (by have := (fits_iff v).1 h; omega)]
 ·rw [if_neg h, if_pos (by have := mt (fits_iff v).2 h; omega)]
theorem form_eq {a : ByteArray} (h : form a.data.toList = true) : a = itx (ival a) := by
 unfold form at h
 simp only [Bool.and_eq_true, Bool.not_eq_true', Bool.and_eq_false_imp, beq_iff_eq, beq_eq_false_iff_ne] at h
 obtain ⟨h1, h2⟩ := h
 have h3 := dd_dnat h1
 have hl : a = ⟨a.data.toList.toArray⟩ := (Lib.mk_data a).symm
 rw [hl]
 unfold itx ival
 simp only
 congr 1
 generalize a.data.toList = l at *
 unfold Lib.itoa
 by_cases h : l.head? = some 45
 ·rw [if_pos h]
  have h4 : 0 < dnat (digs l) := by
   unfold goodD at h1
   simp only [Bool.and_eq_true, Bool.not_eq_true', List.isEmpty_eq_false_iff] at h1
   exact dnat_pos h1.1.2 h1.1.1 (h2 h)
  rw [if_pos (by omega), show (-(dnat (digs l) : Int)).natAbs = dnat (digs l) by omega, h3]
  cases l with
  | nil => simp at h
  | cons c t => simp at h; subst h; simp [digs]
 ·rw [if_neg h, if_neg (by omega), Int.toNat_natCast, h3]
  unfold digs; rw [if_neg h]
theorem chk_zero {a : ByteArray} (h : chk a = 0) : a = itx (ival a) ∧ fits (ival a) := by
 have h0 := h
 unfold chk at h
 split at h
 ·rename_i h1
  have h2 := form_eq h1
  refine ⟨h2, ?_⟩
  rw [h2, chk_itx] at h0
  by_cases h3 : fits (ival a)
  ·exact h3
  ·rw [if_neg h3] at h0; cases h0
 ·cases h
theorem chk_cases (a : ByteArray) : chk a = 0 ∨ chk a = 3 ∨ chk a = 11 := by
 unfold chk; split
 ·split <;> simp
 ·simp
def kept (v : Int) : ByteArray × Int := if fits v then (itx v, 0) else (⟨#[]⟩, 11)
theorem kept_fits {v : Int} (h : fits v) : kept v = (itx v, 0) := if_pos h
end Go.Proofs.YtkdpcgmnkifbbaaGreatDoor
