/- Joined by a program of this session out of its texts, with only what the last theorem needs: Re Rf Rg. No conditions but those stated. -/
import Derived.Test.YtkdpcgmnkifbbaaGreatDoorZC08
import Derived.Test.YtkdpcgmnkifbbaaGreatDoorZC09
import Derived.Test.YtkdpcgmnkifbbaaGreatDoorZC11
import Derived.Test.YtkdpcgmnkifbbaaGreatDoorZC12
import Derived.Test.YtkdpcgmnkifbbaaGreatDoorZC13
import Derived.Test.YtkdpcgmnkifbbaaGreatDoorZC24
set_option linter.unusedVariables false
set_option linter.unusedSimpArgs false
namespace Go.Proofs.YtkdpcgmnkifbbaaGreatDoorW.PrintMore
end Go.Proofs.YtkdpcgmnkifbbaaGreatDoorW.PrintMore
namespace Go.Proofs.YtkdpcgmnkifbbaaGreatDoorW.PrintWords
end Go.Proofs.YtkdpcgmnkifbbaaGreatDoorW.PrintWords
section
namespace Go.Proofs.YtkdpcgmnkifbbaaGreatDoor
open Go.RowKit Go.Proofs.YtkdpcgmnkifbbaaGreatDoorW.PrintWords Go.Proofs.YtkdpcgmnkifbbaaGreatDoorW.PrintMore
def Runs {α : Type} (g : Nat → Option α) (r : α) : Prop := ∃ K, ∀ k, K ≤ k → g k = some r
theorem Runs.of {α : Type} {g : Nat → Option α} {r : α} (hm : ∀ k, LeO (g k) (g (k + 1))) {k : Nat} (h : g k = some r) : Runs g r := by
 refine ⟨k, fun j hj => ?_⟩
 obtain ⟨d, rfl⟩ : ∃ d, j = k + d := ⟨j - k, by omega⟩
 clear hj
 induction d with
 | zero => exact h
 | succ d ih => exact hm _ _ ih
theorem Runs.pure {α : Type} (r : α) : Runs (fun _ => some r) r := ⟨0, fun _ _ => rfl⟩
theorem Runs.bind {α β : Type} {g : Nat → Option α} {f : Nat → α → Option β} {x : α} {r : β} (h1 : Runs g x) (h2 : Runs (fun k => f k x) r) : Runs (fun k => (g k).bind (f k)) r := by
 obtain ⟨K, hK⟩ := h1
 obtain ⟨M, hM⟩ := h2
 exact ⟨max K M, fun k hk => by
  have e := hK k (Nat.le_trans (Nat.le_max_left _ _) hk)
  show (g k).bind (f k) = some r
  rw [e]; exact hM k (Nat.le_trans (Nat.le_max_right _ _) hk)⟩
theorem Runs.congr {α : Type} {g f : Nat → Option α} {r : α} (h : Runs f r) (he : ∀ k, g k = f k) : Runs g r := by
 obtain ⟨K, hK⟩ := h
 exact ⟨K, fun k hk => (he k).trans (hK k hk)⟩
theorem Runs.succ {α : Type} {g f : Nat → Option α} {r : α} (h : Runs f r) (he : ∀ k, g (k + 1) = f k) : Runs g r := by
 obtain ⟨K, hK⟩ := h
 exact ⟨K + 1, fun k hk => by
  obtain ⟨j, rfl⟩ : ∃ j, k = j + 1 := ⟨k - 1, by omega⟩
  rw [he]; exact hK j (by omega)⟩
theorem Runs.get {α : Type} {g : Nat → Option α} {r : α} (h : Runs g r) : ∃ k, g k = some r := ⟨h.choose, h.choose_spec _ (Nat.le_refl _)⟩
def dtx (m : Nat) : ByteArray := bas (Lib.decDigits m)
theorem dtx_list (m : Nat) : (dtx m).data.toList = Lib.decDigits m := rfl
theorem dtx_size (m : Nat) : (dtx m).size = (Lib.decDigits m).length := bas_size _
theorem dtx_pos (m : Nat) : 0 < (dtx m).size := by rw [dtx_size]; exact List.length_pos_iff.2 (dd_ne_nil m)
theorem itx_pos (u : Int) : 0 < (itx u).size := by
 rw [Lib.size_eq, itx_list]; unfold Lib.itoa
 split
 ·simp
 ·exact List.length_pos_iff.2 (dd_ne_nil _)
theorem dtx_eq (m : Nat) : dtx m = itx (m : Int) := by
 unfold dtx bas itx; rw [itoa_nat]
theorem size_f (a : ByteArray) : R.metrolabref01_size.f a = some (bas (digs a.data.toList)) := by
 unfold R.metrolabref01_size.f
 by_cases h0 : a.toList = []
 ·rw [if_pos h0]
  rw [Lib.toList_data] at h0
  rw [h0, ← Lib.mk_data a, h0]; rfl
 ·have hp : 0 < a.size := by
   rw [Lib.toList_data] at h0
   rw [Lib.size_eq]; exact List.length_pos_iff.2 h0
  rw [if_neg h0, if_pos (by omega)]
  have hb : bt a 0 = 45 ↔ a.data.toList.head? = some 45 := bt_head a hp 45
  unfold digs
  by_cases h : a.data.toList.head? = some 45
  ·rw [if_pos (hb.2 h), if_pos (by omega), if_pos h, Lib.extract_eq, ← List.drop_one]
   rw [List.take_of_length_le (by rw [List.length_drop, Lib.size_eq]; exact Nat.le_refl _)]; rfl
  ·rw [if_neg (fun h2 => h (hb.1 h2)), if_neg h]
   exact congrArg some (Lib.mk_data a).symm
theorem size_itx (u : Int) : R.metrolabref01_size.f (itx u) = some (dtx u.natAbs) := by
 rw [size_f, itx_digs]; rfl
theorem below_f (a : ByteArray) (h : form a.data.toList = true) (hp : 0 < a.size) : R.metrolabref01_Below.f a = some (decide (ival a < 0)) := by
 unfold R.metrolabref01_Below.f
 rw [if_pos (by omega)]
 congr 1
 rw [Bool.eq_iff_iff, beq_iff_eq, decide_eq_true_iff, ← form_head a h]
 exact bt_head a hp 45
theorem below_itx (u : Int) : R.metrolabref01_Below.f (itx u) = some (decide (u < 0)) := by
 rw [below_f _ (form_itx u) (itx_pos u), ival_itx]
theorem dd_zero_iff (m : Nat) : Lib.decDigits m = [48] ↔ m = 0 := by
 constructor
 ·intro h
  have := dnat_dd m
  rw [h] at this
  exact this.symm
 ·rintro rfl; exact dd_zero
theorem signed_f (m : Nat) (s : Bool) (hs : (dtx m).size ≤ 9000000000000000000) : R.metrolabref01_signed.f (dtx m) s = some (itx (sg s m)) := by
 unfold R.metrolabref01_signed.f
 cases s
 ·rw [if_neg (by decide), dtx_eq]; rfl
 ·rw [if_pos rfl]
  by_cases h : m = 0
  ·subst h
   rw [if_pos (by rw [Lib.toList_data, dtx_list, dd_zero]), dtx_eq]; rfl
  ·rw [if_neg (by rw [Lib.toList_data, dtx_list, dd_zero_iff]; exact h), if_pos (by omega)]
   congr 1
   unfold itx Lib.itoa sg
   rw [if_pos rfl, if_pos (by omega), show (-(m : Int)).natAbs = m by omega]
   rfl
theorem turned_f (u : Int) (hs : (dtx u.natAbs).size ≤ 9000000000000000000) : R.metrolabref01_Turned.f (itx u) = some (itx (-u)) := by
 unfold R.metrolabref01_Turned.f
 rw [size_itx, below_itx, Option.bind_some, Option.bind_some, signed_f _ _ hs, Option.bind_some]
 congr 2
 unfold sg
 by_cases h : u < 0 <;> simp [h] <;> omega
theorem str_one (n : Nat) (h : n < 10) : strOfNums [(wrap64 (48 + (n : Int))) % 256] = dtx n := by
 rw [IntWalk.wrap64_in _ (by omega)]
 unfold strOfNums dtx bas
 rw [dd_small h, List.map_cons, List.map_nil, show ((48 + (n : Int)) % 256).toNat = 48 + n by omega]
theorem dtx_app (n : Nat) (h : ¬ n < 10) (x : ByteArray) : dtx (n / 10) ++ (dtx (n % 10) ++ x) = dtx n ++ x := by
 rw [← ByteArray.append_assoc]
 congr 1
 apply ByteArray.ext
 apply Array.toList_inj.1
 rw [ByteArray.data_append, Array.toList_append, dtx_list, dtx_list, dtx_list, dd_big h, dd_small (Nat.mod_lt n (by decide))]
theorem of_l0 (n : Nat) (x : ByteArray) (hn : n < 9223372036854775808) (hx : x.size + (dtx n).size ≤ 1000000) : Runs (fun k => R.metrolabref01_Of.l0 k n x) (dtx n ++ x) := by
 induction n using Nat.strongRecOn generalizing x with
 | _ n ih =>
  by_cases h : n < 10
  ·refine Runs.succ (Runs.pure _) fun k => ?_
   rw [R.metrolabref01_Of.l0, if_neg (by omega), Option.bind_some, str_one n h, if_pos (by omega)]
  ·have hz : (dtx n).size = (dtx (n / 10)).size + 1 := by
    rw [dtx_size, dtx_size, dd_big h]; simp
   have hz2 : (dtx (n % 10)).size = 1 := by rw [dtx_size, dd_small (Nat.mod_lt n (by decide))]; rfl
   have hr := ih (n / 10) (by omega) (dtx (n % 10) ++ x) (by omega) (by rw [ByteArray.size_append]; omega)
   rw [dtx_app n h x] at hr
   refine Runs.succ hr fun k => ?_
   have e1 : Int.tmod (n : Int) 10 = ((n % 10 : Nat) : Int) := rfl
   have e2 : Int.tdiv (n : Int) 10 = ((n / 10 : Nat) : Int) := rfl
   rw [R.metrolabref01_Of.l0, if_pos (by omega), Option.bind_some, e1, e2, str_one _ (Nat.mod_lt n (by decide)), if_pos (by omega), IntWalk.wrap64_in _ (by omega)]
theorem dtx_len (m k : Nat) (h : m < 10 ^ (k + 1)) : (dtx m).size ≤ k + 1 := by rw [dtx_size]; exact (dd_le_iff m k).2 h
theorem of_nat (n : Nat) (hn : n < 9223372036854775808) : Runs (fun k => R.metrolabref01_Of.f k n) (itx n) := by
 have h := of_l0 n ⟨#[]⟩ hn (by have := dtx_len n 18 (by omega); show 0 + _ ≤ _; omega)
 have e : dtx n ++ (⟨#[]⟩ : ByteArray) = itx n := by
  rw [← dtx_eq]
  apply ByteArray.ext
  apply Array.toList_inj.1
  rw [ByteArray.data_append, Array.toList_append]; simp
 rw [e] at h
 by_cases h0 : n = 0
 ·subst h0
  refine Runs.succ (Runs.succ h (g := fun k => R.metrolabref01_Of.j0 k 0 false) fun k => ?_) fun k => ?_
  ·rw [R.metrolabref01_Of.j0, if_neg (by decide), if_neg (by decide)]; rfl
  ·rw [R.metrolabref01_Of.f, if_pos (by rw [IntWalk.wrap64_in _ (by decide)]; rfl)]; rfl
 ·refine Runs.succ (Runs.succ h (g := fun k => R.metrolabref01_Of.j0 k n false) fun k => ?_) fun k => ?_
  ·rw [R.metrolabref01_Of.j0, if_neg (by decide), if_neg (by omega)]
  ·rw [R.metrolabref01_Of.f, if_neg (by rw [IntWalk.wrap64_in _ (by omega)]; omega)]
theorem ref_of (v : Int) (h0 : -9223372036854775808 < v) (h1 : v < 9223372036854775808) : Runs (fun k => R.metrolabref01_Of.f k v) (itx v) := by
 by_cases h : v < 0
 ·have hn := of_nat v.natAbs (by omega)
  rw [show ((v.natAbs : Nat) : Int) = -v by omega] at hn
  have ht := turned_f (-v) (by have := dtx_len (-v).natAbs 18 (by omega); omega)
  rw [Int.neg_neg] at ht
  have hb : Runs (fun k => (R.metrolabref01_Of.f k (-v)).bind fun t105 => ((R.metrolabref01_Turned.f t105).bind fun t106 => (some t106))) (itx v) := by
   refine Runs.bind hn ?_
   rw [ht]; exact Runs.pure _
  refine Runs.succ (Runs.succ hb (g := fun k => R.metrolabref01_Of.j0 k v false) fun k => ?_) fun k => ?_
  ·rw [R.metrolabref01_Of.j0, if_neg (by decide), if_pos h, IntWalk.wrap64_in _ (by omega)]
  ·rw [R.metrolabref01_Of.f, if_neg (by rw [IntWalk.wrap64_in _ (by omega)]; omega)]
 ·obtain ⟨n, rfl⟩ : ∃ n : Nat, v = n := ⟨v.toNat, by omega⟩
  exact of_nat n (by omega)
theorem dnat_take_succ (D : List UInt8) (i : Nat) (h : i < D.length) : dnat (D.take (i + 1)) = 10 * dnat (D.take i) + ((D.getD i 0).toNat - 48) := by
 rw [← List.take_append_getElem h, dnat_append]
 simp [List.getD, List.getElem?_eq_getElem h]
theorem number_l0 (u : Int) (m : Nat) (hm : (dtx m).size ≤ 18) (i : Nat) (hi : i ≤ (dtx m).size) : Runs (fun k => R.metrolabref01_number.l0 k (itx u) (dnat ((Lib.decDigits m).take i)) (dtx m) i) (if u < 0 then -(m : Int) else m) := by
 obtain ⟨d, hd⟩ : ∃ d, d = (dtx m).size - i := ⟨_, rfl⟩
 have hm18 : m < 10 ^ 18 := by
  rw [dtx_size] at hm; exact (dd_le_iff m 17).1 hm
 induction d generalizing i with
 | zero =>
  have hi2 : i = (dtx m).size := by omega
  refine Runs.succ (Runs.pure _) fun k => ?_
  rw [R.metrolabref01_number.l0, if_neg (by omega), below_itx, Option.bind_some]
  rw [hi2, dtx_size, List.take_length, dnat_dd]
  by_cases h : u < 0
  ·rw [decide_eq_true h, if_pos rfl, if_pos h, IntWalk.wrap64_in _ (by omega)]
  ·rw [decide_eq_false h, if_neg (by decide), if_neg h]
 | succ d ih =>
  have hl : i < (Lib.decDigits m).length := by rw [← dtx_size]; omega
  refine Runs.succ (ih (i + 1) (by omega) (by omega)) fun k => ?_
  have hdig : isDig ((Lib.decDigits m).getD i 0) = true := by
   have := dd_all m
   rw [List.all_eq_true] at this
   rw [List.getD, List.getElem?_eq_getElem hl]
   exact this _ (List.getElem_mem hl)
  obtain ⟨c, hc, _, hv⟩ := isDig_val hdig
  have hlt := dnat_lt (all_take (dd_all m) (i + 1))
  have hle : 10 ^ ((Lib.decDigits m).take (i + 1)).length ≤ 10 ^ 18 := Nat.pow_le_pow_right (by decide) (by rw [List.length_take, ← dtx_size]; omega)
  rw [dnat_take_succ _ _ hl, hv] at hlt
  rw [R.metrolabref01_number.l0, if_pos (by omega), if_pos (by omega), bt_nat _ _ (by omega), dtx_list, dnat_take_succ _ _ hl, hv]
  have hcc : (((((Lib.decDigits m).getD i 0).toNat : Int) - 48) % 256) = (c : Int) := by
   unfold isDig at hdig
   simp only [Bool.and_eq_true, decide_eq_true_eq] at hdig
   omega
  rw [hcc, IntWalk.wrap64_in (10 * _) (by omega), IntWalk.wrap64_in (10 * _ + _) (by omega), IntWalk.wrap64_in ((i : Int) + 1) (by omega)]
  push_cast
  rfl
theorem number_f (u : Int) (hu : (dtx u.natAbs).size ≤ 18) : Runs (fun k => R.metrolabref01_number.f k (itx u)) u := by
 have h := number_l0 u u.natAbs hu 0 (by omega)
 have e : (if u < 0 then -(u.natAbs : Int) else u.natAbs) = u := by split <;> omega
 rw [e] at h
 refine Runs.congr h fun k => ?_
 unfold R.metrolabref01_number.f
 rw [size_itx, Option.bind_some]; rfl
theorem brief_f (u v : Int) : Runs (fun k => R.metrolabref01_brief.f k (itx u) (itx v)) (if (dtx u.natAbs).size ≤ 18 ∧ (dtx v.natAbs).size ≤ 18 then (u, v, true) else (0, 0, false)) := by
 by_cases h1 : (dtx u.natAbs).size ≤ 18
 ·by_cases h2 : (dtx v.natAbs).size ≤ 18
  ·rw [if_pos ⟨h1, h2⟩]
   have hb : Runs (fun k => (R.metrolabref01_number.f k (itx u)).bind fun t117 => ((R.metrolabref01_number.f k (itx v)).bind fun t118 => (some (t117, t118, true)))) (u, v, true) :=
    Runs.bind (number_f u h1) (Runs.bind (number_f v h2) (Runs.pure _))
   refine Runs.congr (Runs.succ hb (g := fun k => R.metrolabref01_brief.j0 k (itx u) (itx v) false) fun k => ?_) fun k => ?_
   ·rw [R.metrolabref01_brief.j0, if_neg (by decide)]
   ·unfold R.metrolabref01_brief.f
    rw [size_itx, size_itx, Option.bind_some, if_neg (by omega), Option.bind_some, decide_eq_false (by omega)]
  ·rw [if_neg (fun h => h2 h.2)]
   refine Runs.congr (Runs.succ (Runs.pure _) (g := fun k => R.metrolabref01_brief.j0 k (itx u) (itx v) true) fun k => ?_) fun k => ?_
   ·rw [R.metrolabref01_brief.j0, if_pos rfl]
   ·unfold R.metrolabref01_brief.f
    rw [size_itx, size_itx, Option.bind_some, if_neg (by omega), Option.bind_some, decide_eq_true (by omega)]
 ·rw [if_neg (fun h => h1 h.1)]
  refine Runs.congr (Runs.succ (Runs.pure _) (g := fun k => R.metrolabref01_brief.j0 k (itx u) (itx v) true) fun k => ?_) fun k => ?_
  ·rw [R.metrolabref01_brief.j0, if_pos rfl]
  ·unfold R.metrolabref01_brief.f
   rw [size_itx, Option.bind_some, if_pos (by omega)]
end Go.Proofs.YtkdpcgmnkifbbaaGreatDoor
end
section
namespace Go.Proofs.YtkdpcgmnkifbbaaGreatDoor
open Go.RowKit Go.Proofs.YtkdpcgmnkifbbaaGreatDoorW.PrintWords Go.Proofs.YtkdpcgmnkifbbaaGreatDoorW.PrintMore
theorem bare_f (D : List UInt8) (h : D.all isDig = true) (h0 : D ≠ []) : Runs (fun k => R.metrolabref01_bare.f k (bas D)) (dtx (dnat D)) := by
 show Runs (fun k => R.metrolabref01_bare.l0 k (bas D)) (dtx (dnat D))
 induction D with
 | nil => exact absurd rfl h0
 | cons c t ih =>
  have hs : (bas (c :: t)).size = t.length + 1 := by rw [bas_size]; rfl
  by_cases ht : t = []
  ·subst ht
   refine Runs.succ (Runs.pure _) fun k => ?_
   rw [R.metrolabref01_bare.l0, if_neg (by rw [hs]; simp)]
   have hg : goodD [c] = true := by unfold goodD; rw [h]; simp
   unfold dtx; rw [dd_dnat hg]
  ·have hl : 0 < t.length := List.length_pos_iff.2 ht
   rw [List.all_cons, Bool.and_eq_true] at h
   have hb : bt (bas (c :: t)) 0 = 48 ↔ (c :: t).head? = some 48 := bt_head _ (by omega) 48
   by_cases h48 : c = 48
   ·subst h48
    have ihh := ih h.2 ht
    have e : dnat (48 :: t) = dnat t := by rw [dnat_cons]; simp
    rw [e]
    refine Runs.succ ihh fun k => ?_
    rw [R.metrolabref01_bare.l0, if_pos (by omega), if_pos (by omega), if_pos (hb.2 rfl), if_pos (by omega)]
    congr 1
    rw [Lib.extract_eq, bas_list, List.drop_one, List.tail_cons, List.take_of_length_le (by omega)]; rfl
   ·refine Runs.succ (Runs.pure _) fun k => ?_
    rw [R.metrolabref01_bare.l0, if_pos (by omega), if_pos (by omega), if_neg (fun h2 => h48 (by simpa using hb.1 h2))]
    have hg : goodD (c :: t) = true := by rw [goodD_cons, List.all_cons, h.1, h.2]; simp [h48]
    unfold dtx; rw [dd_dnat hg]
theorem column_f (a b c : Nat) (add : Bool) (ha : a < 10) (hb : b < 10) (hc : c ≤ 1) : ∃ d c' : Nat, d < 10 ∧ c' ≤ 1 ∧ Runs (fun k => R.metrolabref01_column.f k ((48 + a : Nat) : Int) ((48 + b : Nat) : Int) c add) (((48 + d : Nat) : Int), (c' : Int)) ∧ ((a : Int) + (if add then 1 else -1) * (b + c) = (if add then 1 else -1) * (10 * c') + d) := by
 have ea : ((((48 + a : Nat) : Int) - 48) % 256) = a := by omega
 have eb : ((((48 + b : Nat) : Int) - 48) % 256) = b := by omega
 cases add
 ·have hw : wrap64 ((a : Int) - b - c) = (a : Int) - b - c := IntWalk.wrap64_in _ (by omega)
  by_cases h : (a : Int) - b - c < 0
  ·refine ⟨10 + a - b - c, 1, by omega, by omega, ?_, by simp; omega⟩
   refine Runs.congr (Runs.succ (Runs.pure _) (g := fun k => R.metrolabref01_column.j0 k ((a : Int) - b - c)) fun k => ?_) fun k => ?_
   ·rw [R.metrolabref01_column.j0, if_neg (by omega), if_pos h, IntWalk.wrap64_in (48 + _) (by omega), IntWalk.wrap64_in _ (by omega)]
    congr 2; omega
   ·unfold R.metrolabref01_column.f
    rw [if_neg (by decide), ea, eb, hw]
  ·refine ⟨a - b - c, 0, by omega, by omega, ?_, by simp; omega⟩
   refine Runs.congr (Runs.succ (Runs.pure _) (g := fun k => R.metrolabref01_column.j0 k ((a : Int) - b - c)) fun k => ?_) fun k => ?_
   ·rw [R.metrolabref01_column.j0, if_neg (by omega), if_neg h, IntWalk.wrap64_in (48 + _) (by omega)]
    congr 2; omega
   ·unfold R.metrolabref01_column.f
    rw [if_neg (by decide), ea, eb, hw]
 ·have hw : wrap64 ((a : Int) + b + c) = (a : Int) + b + c := IntWalk.wrap64_in _ (by omega)
  by_cases h : (a : Int) + b + c > 9
  ·refine ⟨a + b + c - 10, 1, by omega, by omega, ?_, by simp; omega⟩
   refine Runs.congr (Runs.succ (Runs.pure _) (g := fun k => R.metrolabref01_column.j0 k ((a : Int) + b + c)) fun k => ?_) fun k => ?_
   ·rw [R.metrolabref01_column.j0, if_pos h, IntWalk.wrap64_in (48 + _) (by omega), IntWalk.wrap64_in _ (by omega)]
    congr 2; omega
   ·unfold R.metrolabref01_column.f
    rw [if_pos rfl, ea, eb, hw]
  ·refine ⟨a + b + c, 0, by omega, by omega, ?_, by simp; omega⟩
   refine Runs.congr (Runs.succ (Runs.pure _) (g := fun k => R.metrolabref01_column.j0 k ((a : Int) + b + c)) fun k => ?_) fun k => ?_
   ·rw [R.metrolabref01_column.j0, if_neg h, if_neg (by omega), IntWalk.wrap64_in (48 + _) (by omega)]
    congr 2; omega
   ·unfold R.metrolabref01_column.f
    rw [if_pos rfl, ea, eb, hw]
def numsOf (l : List UInt8) : List Int := l.map fun c => (c.toNat : Int)
theorem str_nums (l : List UInt8) : strOfNums (numsOf l) = bas l := by
 unfold strOfNums numsOf bas
 congr 2
 rw [List.map_map]
 conv => rhs; rw [← List.map_id l]
 apply List.map_congr_left
 intro c _
 show UInt8.ofNat ((c.toNat : Int)).toNat = c
 rw [Int.toNat_natCast]; exact UInt8.toNat_inj.1 (by simp)
theorem bt_digit {D : List UInt8} (h : D.all isDig = true) {j : Nat} (hj : j < D.length) : ∃ a, a < 10 ∧ bt (bas D) j = ((48 + a : Nat) : Int) ∧ D.drop j = UInt8.ofNat (48 + a) :: D.drop (j + 1) := by
 have hd : isDig (D[j]) = true := by
  rw [List.all_eq_true] at h; exact h _ (List.getElem_mem hj)
 obtain ⟨a, ha, hc, _⟩ := isDig_val hd
 refine ⟨a, ha, ?_, by rw [List.drop_eq_getElem_cons hj, hc]⟩
 rw [bt_nat _ _ (by rw [bas_size]; exact hj), bas_list, List.getD, List.getElem?_eq_getElem hj, Option.getD_some, hc, dig_of a ha]
theorem dnat_digit (a : Nat) (ha : a < 10) (t : List UInt8) : dnat (UInt8.ofNat (48 + a) :: t) = a * 10 ^ t.length + dnat t := by
 rw [dnat_cons, dig_of a ha]; congr 2; omega
theorem paper_l0 (A B : List UInt8) (n V : Nat) (hA : A.length = n) (hB : B.length = n) (dA : A.all isDig = true) (dB : B.all isDig = true) (add : Bool) (hn : n ≤ 1000000) (h0 : 0 < n)
  (hV : (dnat A : Int) + (if add then 1 else -1) * dnat B = V) (hVn : V < 10 ^ n)
  (j : Nat) (hj : j ≤ n) (c : Nat) (hc : c ≤ 1) (pre : List Int) (O : List UInt8) (hp : pre.length = j) (hO : O.length = n - j) (dO : O.all isDig = true)
  (hinv : (dnat (A.drop j) : Int) + (if add then 1 else -1) * dnat (B.drop j) = (if add then 1 else -1) * (c * 10 ^ (n - j)) + dnat O) :
  Runs (fun k => R.metrolabref01_paper.l0 k (bas A) (bas B) add (pre ++ numsOf O) c ((j : Int) - 1)) (dtx V) := by
 induction j generalizing c pre O with
 | zero =>
  have hpre : pre = [] := List.eq_nil_of_length_eq_zero hp
  subst hpre
  have hlt := dnat_lt dO
  rw [hO, Nat.sub_zero] at hlt
  rw [Nat.sub_zero, List.drop_zero, List.drop_zero, hV] at hinv
  have hVO : dnat O = V := by
   have hpw : ((10 : Int) ^ n) = ((10 ^ n : Nat) : Int) := by push_cast; rfl
   rw [hpw] at hinv
   generalize 10 ^ n = p at *
   rcases Nat.eq_zero_or_pos c with h | h
   ·subst h; cases add <;> simp at hinv <;> omega
   ·have : c = 1 := by omega
    subst this
    cases add <;> simp at hinv <;> omega
  have hb := bare_f O dO (by intro h; rw [h] at hO; simp at hO; omega)
  rw [hVO] at hb
  have hb2 : Runs (fun k => (R.metrolabref01_bare.f k (strOfNums ([] ++ numsOf O))).bind fun t127 => (some t127)) (dtx V) := by
   rw [List.nil_append, str_nums]; exact Runs.bind hb (Runs.pure _)
  refine Runs.succ hb2 fun k => ?_
  rw [R.metrolabref01_paper.l0, if_neg (by omega)]
 | succ j ih =>
  obtain ⟨a, ha, ea, da⟩ := bt_digit dA (j := j) (by omega)
  obtain ⟨b, hb, eb, db⟩ := bt_digit dB (j := j) (by omega)
  obtain ⟨d, c', hd, hc', hcol, heq⟩ := column_f a b c add ha hb hc
  obtain ⟨pre', x, rfl⟩ : ∃ pre' x, pre = pre' ++ [x] := by
   refine ⟨pre.dropLast, pre.getLast (by intro h; rw [h] at hp; simp at hp), (List.dropLast_concat_getLast _).symm⟩
  have hp' : pre'.length = j := by simp at hp; exact hp
  have hlen : (A.drop (j + 1)).length = n - (j + 1) := by rw [List.length_drop, hA]
  have hlenB : (B.drop (j + 1)).length = n - (j + 1) := by rw [List.length_drop, hB]
  have hnj : n - j = (n - (j + 1)) + 1 := by omega
  have hnext := ih (by omega) c' hc' pre' (UInt8.ofNat (48 + d) :: O) hp' (by rw [List.length_cons, hO]; omega) (by rw [List.all_cons, isDig_of d hd, dO]; rfl) (by
   rw [da, db, dnat_digit a ha, dnat_digit b hb, dnat_digit d hd, hlen, hlenB, hO, hnj, Int.pow_succ]
   push_cast
   generalize (10 : Int) ^ (n - (j + 1)) = p at *
   cases add
   ·simp at hinv heq ⊢
    have : (a : Int) * p = (b + c - 10 * c' + d) * p := by congr 1; omega
    rw [Int.add_mul, Int.sub_mul, Int.add_mul] at this
    rw [Int.mul_comm p 10, ← Int.mul_assoc, Int.mul_comm (c' : Int) 10]
    omega
   ·simp at hinv heq ⊢
    have : ((a : Int) + (b + c)) * p = (10 * c' + d) * p := by congr 1
    rw [Int.add_mul, Int.add_mul, Int.add_mul] at this
    rw [Int.mul_comm p 10, ← Int.mul_assoc, Int.mul_comm (c' : Int) 10]
    omega)
  refine Runs.succ (f := fun k => (R.metrolabref01_column.f k (bt (bas A) j) (bt (bas B) j) c add).bind fun bt124 => R.metrolabref01_paper.l0 k (bas A) (bas B) add ((pre' ++ [x] ++ numsOf O).set j bt124.1) bt124.2 ((j : Int) - 1)) ?_ fun k => ?_
  ·rw [ea, eb]
   refine Runs.bind hcol ?_
   have e : (pre' ++ [x] ++ numsOf O).set j ((48 + d : Nat) : Int) = pre' ++ numsOf (UInt8.ofNat (48 + d) :: O) := by
    rw [List.append_assoc, List.set_append_right _ _ (by omega), hp', Nat.sub_self]
    simp [numsOf, dig_of d hd]
    omega
   show Runs (fun k => R.metrolabref01_paper.l0 k (bas A) (bas B) add ((pre' ++ [x] ++ numsOf O).set j ((48 + d : Nat) : Int)) (c' : Int) ((j : Int) - 1)) (dtx V)
   rw [e]; exact hnext
  ·have ej : ((j + 1 : Nat) : Int) - 1 = j := by omega
   have hol : ((pre' ++ [x] ++ numsOf O).length : Int) = n := by simp [numsOf, hp', hO]; omega
   rw [ej, R.metrolabref01_paper.l0, if_pos (by omega), if_pos (by omega), if_pos (by rw [bas_size]; omega), if_pos (by rw [bas_size]; omega), IntWalk.wrap64_in _ (by omega), Int.toNat_natCast]
   congr 1
   funext bt124
   rw [if_pos (by omega)]
theorem padk_dnat (k : Nat) (D : List UInt8) : dnat (List.replicate k 48 ++ D) = dnat D := by
 induction k with
 | zero => rfl
 | succ k ih => rw [List.replicate_succ, List.cons_append, dnat_cons, ih]; simp
theorem padk_all (k : Nat) {D : List UInt8} (h : D.all isDig = true) : (List.replicate k 48 ++ D).all isDig = true := by
 rw [List.all_append, h, Bool.and_true, List.all_eq_true]
 intro x hx
 rw [(List.mem_replicate.1 hx).2]; rfl
theorem wide_f (m n : Nat) (h : (dtx m).size ≤ n) (hn : n ≤ 1000000) : R.metrolabref01_wide.f (dtx m) n = some (bas (List.replicate (n - (dtx m).size) 48 ++ Lib.decDigits m)) := by
 unfold R.metrolabref01_wide.f
 rw [if_pos ⟨by omega, dtx_pos m⟩, if_pos (by omega)]; rfl
theorem mx_nat (a b : Nat) : mx (a : Int) (b : Int) = ((max a b : Nat) : Int) := by
 unfold mx; split <;> omega
theorem paper_f (x y V : Nat) (add : Bool) (hx : (dtx x).size ≤ 100000) (hy : (dtx y).size ≤ 100000) (hV : (x : Int) + (if add then 1 else -1) * y = V) :
  Runs (fun k => R.metrolabref01_paper.f k (dtx x) (dtx y) add) (dtx V) := by
 obtain ⟨n, hn⟩ : ∃ n, n = max (dtx x).size (dtx y).size + 1 := ⟨_, rfl⟩
 have hw : wrap64 ((mx ((dtx x).size : Int) ((dtx y).size : Int)) + 1) = (n : Int) := by
  rw [mx_nat, IntWalk.wrap64_in _ (by omega)]; omega
 have hxn : (Lib.decDigits x).length + 1 ≤ n := by rw [← dtx_size]; omega
 have hyn : (Lib.decDigits y).length + 1 ≤ n := by rw [← dtx_size]; omega
 have lx : x < 10 ^ (n - 1) := by
  have := (dd_le_iff x (n - 2)).1 (by have := List.length_pos_iff.2 (dd_ne_nil x); omega)
  have h0 := List.length_pos_iff.2 (dd_ne_nil x)
  rwa [show n - 2 + 1 = n - 1 by omega] at this
 have ly : y < 10 ^ (n - 1) := by
  have := (dd_le_iff y (n - 2)).1 (by have := List.length_pos_iff.2 (dd_ne_nil y); omega)
  have h0 := List.length_pos_iff.2 (dd_ne_nil y)
  rwa [show n - 2 + 1 = n - 1 by omega] at this
 have hp : 10 ^ n = 10 * 10 ^ (n - 1) := by
  rw [show n = n - 1 + 1 by omega, Nat.pow_succ, Nat.mul_comm]; simp
 have hl := paper_l0 (List.replicate (n - (dtx x).size) 48 ++ Lib.decDigits x) (List.replicate (n - (dtx y).size) 48 ++ Lib.decDigits y) n V
  (by rw [List.length_append, List.length_replicate, dtx_size]; omega) (by rw [List.length_append, List.length_replicate, dtx_size]; omega)
  (padk_all _ (dd_all x)) (padk_all _ (dd_all y)) add (by omega) (by omega)
  (by rw [padk_dnat, padk_dnat, dnat_dd, dnat_dd]; exact hV)
  (by rw [hp]; generalize 10 ^ (n - 1) = p at *; cases add <;> simp at hV <;> omega)
  n (Nat.le_refl _) 0 (by omega) (List.replicate n 0) [] (by simp) (by simp) rfl
  (by rw [List.drop_of_length_le (by rw [List.length_append, List.length_replicate, dtx_size]; omega), List.drop_of_length_le (by rw [List.length_append, List.length_replicate, dtx_size]; omega)]; simp [dnat])
 refine Runs.congr hl fun k => ?_
 unfold R.metrolabref01_paper.f
 rw [hw, wide_f x n (by omega) (by omega), wide_f y n (by omega) (by omega)]
 simp only [Option.bind_some, Int.toNat_natCast]
 rw [if_pos (by omega), if_pos (by omega), IntWalk.wrap64_in _ (by omega)]
 simp [numsOf]
end Go.Proofs.YtkdpcgmnkifbbaaGreatDoor
end
section
namespace Go.Proofs.YtkdpcgmnkifbbaaGreatDoor
open Go.RowKit Go.Proofs.YtkdpcgmnkifbbaaGreatDoorW.PrintWords Go.Proofs.YtkdpcgmnkifbbaaGreatDoorW.PrintMore
theorem bytesLess_digits : ∀ (l m : List UInt8), l.length = m.length → l.all isDig = true → m.all isDig = true → Op.bytesLess l m = decide (dnat l < dnat m)
 | [], [], _, _, _ => by simp [Op.bytesLess, dnat]
 | [], _ :: _, h, _, _ => by simp at h
 | _ :: _, [], h, _, _ => by simp at h
 | a :: l, b :: m, h, ha, hb => by
  rw [List.all_cons, Bool.and_eq_true] at ha hb
  have hl : l.length = m.length := by simpa using h
  have ih := bytesLess_digits l m hl ha.2 hb.2
  have h1 := dnat_lt ha.2
  have h2 := dnat_lt hb.2
  obtain ⟨x, hx, hxa, hx2⟩ := isDig_val ha.1
  obtain ⟨y, hy, hyb, hy2⟩ := isDig_val hb.1
  rw [dnat_cons, dnat_cons, hx2, hy2, ← hl, Op.bytesLess, ih]
  rw [← hl] at h2
  have e1 : a < b ↔ x < y := by
   rw [hxa, hyb, UInt8.lt_iff_toNat_lt, dig_of x hx, dig_of y hy]; omega
  have e2 : a = b ↔ x = y := by
   rw [hxa, hyb]
   constructor
   ·intro h; have := congrArg UInt8.toNat h; rw [dig_of x hx, dig_of y hy] at this; omega
   ·rintro rfl; rfl
  generalize 10 ^ l.length = p at *
  rw [Bool.eq_iff_iff]
  simp only [Bool.or_eq_true, Bool.and_eq_true, decide_eq_true_iff, beq_iff_eq, e1, e2]
  rcases Nat.lt_trichotomy x y with h3 | h3 | h3
  ·have h4 : (x + 1) * p ≤ y * p := Nat.mul_le_mul_right _ h3
   rw [Nat.add_mul, Nat.one_mul] at h4
   omega
  ·subst h3; omega
  ·have h4 : (y + 1) * p ≤ x * p := Nat.mul_le_mul_right _ h3
   rw [Nat.add_mul, Nat.one_mul] at h4
   omega
theorem less_f (x y : Nat) : R.metrolabref01_less.f (dtx x) (dtx y) = some (decide (x < y)) := by
 unfold R.metrolabref01_less.f
 rw [dtx_size, dtx_size]
 by_cases h : (Lib.decDigits x).length < (Lib.decDigits y).length
 ·rw [if_pos (by omega), decide_eq_true (dd_mono h)]
 ·rw [if_neg (by omega)]
  by_cases h2 : (Lib.decDigits x).length = (Lib.decDigits y).length
  ·rw [if_pos (by omega), Lib.toList_data, Lib.toList_data, dtx_list, dtx_list, bytesLess_digits _ _ h2 (dd_all x) (dd_all y), dnat_dd, dnat_dd]
  ·have := dd_mono (show (Lib.decDigits y).length < (Lib.decDigits x).length by omega)
   rw [if_neg (by omega), decide_eq_false (by omega)]
theorem dtx_small {m : Nat} (h : (dtx m).size ≤ 18) : m < 1000000000000000000 := by
 rw [dtx_size] at h; exact (dd_le_iff m 17).1 h
theorem dtx_add {x y n : Nat} (hx : (dtx x).size ≤ n) (hy : (dtx y).size ≤ n) : (dtx (x + y)).size ≤ n + 1 := by
 rw [dtx_size] at *
 have h0 := List.length_pos_iff.2 (dd_ne_nil x)
 obtain ⟨k, rfl⟩ : ∃ k, n = k + 1 := ⟨n - 1, by omega⟩
 have h1 := (dd_le_iff x k).1 hx
 have h2 := (dd_le_iff y k).1 hy
 refine (dd_le_iff _ (k + 1)).2 ?_
 rw [Nat.pow_succ]; omega
theorem dtx_mono {x y : Nat} (h : x ≤ y) : (dtx x).size ≤ (dtx y).size := by
 rw [dtx_size, dtx_size]
 rcases Nat.lt_or_ge (Lib.decDigits y).length (Lib.decDigits x).length with h2 | h2
 ·have := dd_mono h2; omega
 ·exact h2
theorem ref_plus (u v : Int) (hu : (dtx u.natAbs).size ≤ 90000) (hv : (dtx v.natAbs).size ≤ 90000) : Runs (fun k => R.metrolabref01_Plus.f k (itx u) (itx v)) (itx (u + v)) := by
 unfold R.metrolabref01_Plus.f
 refine Runs.bind (brief_f u v) ?_
 by_cases h : (dtx u.natAbs).size ≤ 18 ∧ (dtx v.natAbs).size ≤ 18
 ·rw [if_pos h]
  have h1 := dtx_small h.1
  have h2 := dtx_small h.2
  simp only [if_true]
  rw [IntWalk.wrap64_in _ (by omega)]
  exact Runs.bind (ref_of (u + v) (by omega) (by omega)) (Runs.pure _)
 ·rw [if_neg h]
  simp only [Bool.false_eq_true, if_false, size_itx, below_itx, Option.bind_some]
  by_cases hs : decide (u < 0) = decide (v < 0)
  ·have hb : ((decide (u < 0) == decide (v < 0)) = true) := by rw [hs]; simp
   simp only [hb, if_true]
   have hp := paper_f u.natAbs v.natAbs (u.natAbs + v.natAbs) true (by omega) (by omega) (by simp)
   refine Runs.bind hp ?_
   have hz := dtx_add hu hv
   rw [signed_f _ _ (by omega)]
   have e : sg (decide (u < 0)) (u.natAbs + v.natAbs) = u + v := by
    unfold sg
    by_cases h3 : u < 0 <;> by_cases h4 : v < 0 <;> simp [h3, h4] at hs ⊢ <;> omega
   rw [e]; exact Runs.pure _
  ·have hb : ((decide (u < 0) == decide (v < 0)) = false) := by rw [beq_eq_false_iff_ne]; exact hs
   simp only [hb, Bool.false_eq_true, if_false, less_f, Option.bind_some]
   by_cases hl : u.natAbs < v.natAbs
   ·simp only [hl, decide_true, if_true]
    have hp := paper_f v.natAbs u.natAbs (v.natAbs - u.natAbs) false (by omega) (by omega) (by simp; omega)
    refine Runs.bind hp ?_
    have hz := dtx_mono (show v.natAbs - u.natAbs ≤ v.natAbs by omega)
    rw [signed_f _ _ (by omega)]
    have e : sg (decide (v < 0)) (v.natAbs - u.natAbs) = u + v := by
     unfold sg
     by_cases h3 : u < 0 <;> by_cases h4 : v < 0 <;> simp [h3, h4] at hs ⊢ <;> omega
    rw [e]; exact Runs.pure _
   ·simp only [hl, decide_false, Bool.false_eq_true, if_false]
    have hp := paper_f u.natAbs v.natAbs (u.natAbs - v.natAbs) false (by omega) (by omega) (by simp; omega)
    refine Runs.bind hp ?_
    have hz := dtx_mono (show u.natAbs - v.natAbs ≤ u.natAbs by omega)
    rw [signed_f _ _ (by omega)]
    have e : sg (decide (u < 0)) (u.natAbs - v.natAbs) = u + v := by
     unfold sg
     by_cases h3 : u < 0 <;> by_cases h4 : v < 0 <;> simp [h3, h4] at hs ⊢ <;> omega
    rw [e]; exact Runs.pure _
theorem ref_minus (u v : Int) (hu : (dtx u.natAbs).size ≤ 90000) (hv : (dtx v.natAbs).size ≤ 90000) : Runs (fun k => R.metrolabref01_Minus.f k (itx u) (itx v)) (itx (u - v)) := by
 unfold R.metrolabref01_Minus.f
 simp only [turned_f v (by omega), Option.bind_some]
 refine Runs.bind (ref_plus u (-v) hu (by rw [Int.natAbs_neg]; exact hv)) ?_
 exact Runs.pure _
theorem itx_zero_list (v : Int) : ((itx v).toList = ([48] : List UInt8)) ↔ v = 0 := by
 constructor
 ·intro h
  have := itx_nz (v := v)
  by_cases h0 : v = 0
  ·exact h0
  ·have := this h0
   rw [beq_eq_false_iff_ne] at this
   exact absurd h this
 ·rintro rfl; rw [itx_zero, Lib.toList_data]
theorem ref_order (u v : Int) (hu : (dtx u.natAbs).size ≤ 90000) (hv : (dtx v.natAbs).size ≤ 90000) : Runs (fun k => R.metrolabref01_Order.f k (itx u) (itx v)) (cmpv u v) := by
 unfold R.metrolabref01_Order.f
 refine Runs.bind (ref_minus u v hu hv) ?_
 rcases Int.lt_trichotomy u v with h | h | h
 ·rw [if_neg (fun h2 => by have := (itx_zero_list _).1 h2; omega), below_itx, Option.bind_some, decide_eq_true (by omega), if_pos rfl, cmpv_lt h]
  exact Runs.pure _
 ·rw [if_pos ((itx_zero_list _).2 (by omega)), cmpv_eq h]
  exact Runs.pure _
 ·rw [if_neg (fun h2 => by have := (itx_zero_list _).1 h2; omega), below_itx, Option.bind_some, decide_eq_false (by omega), if_neg (by decide), cmpv_gt h]
  exact Runs.pure _
theorem rcheck_l0 (D : List UInt8) (hD : D.length ≤ 4611686018427387904) (i : Nat) (hi : i ≤ D.length) (hp : (D.take i).all isDig = true) :
  Runs (fun k => R.metrolabref01_Check.l0 k (bas D) i) (if D.all isDig then (if D.length > 1024 then 11 else 0) else 3) := by
 obtain ⟨d, hd⟩ : ∃ d, d = D.length - i := ⟨_, rfl⟩
 induction d generalizing i with
 | zero =>
  have : i = D.length := by omega
  subst this
  rw [List.take_length] at hp
  rw [if_pos hp]
  refine Runs.succ (Runs.pure _) fun k => ?_
  rw [R.metrolabref01_Check.l0, bas_size, if_neg (by omega)]
  by_cases h : D.length > 1024
  ·rw [if_pos (by omega), if_pos h]
  ·rw [if_neg (by omega), if_neg h]
 | succ d ih =>
  have hl : i < D.length := by omega
  have hb := bt_nat (bas D) i (by rw [bas_size]; exact hl)
  rw [bas_list, List.getD, List.getElem?_eq_getElem hl, Option.getD_some] at hb
  by_cases hdig : isDig D[i] = true
  ·have hdd := hdig
   unfold isDig at hdd
   simp only [Bool.and_eq_true, decide_eq_true_eq] at hdd
   refine Runs.succ (ih (i + 1) (by omega) (by rw [← List.take_append_getElem hl, List.all_append, hp, List.all_cons, hdig]; rfl) (by omega)) fun k => ?_
   rw [R.metrolabref01_Check.l0, bas_size, if_pos (by omega), if_pos (by omega), hb, if_neg (by omega), if_neg (by omega), IntWalk.wrap64_in _ (by omega)]; rfl
  ·have hall : ¬ D.all isDig = true := by
    intro h; rw [List.all_eq_true] at h; exact hdig (h _ (List.getElem_mem hl))
   rw [if_neg hall]
   refine Runs.succ (Runs.pure _) fun k => ?_
   rw [R.metrolabref01_Check.l0, bas_size, if_pos (by omega), if_pos (by omega), hb]
   unfold isDig at hdig
   simp only [Bool.and_eq_true, decide_eq_true_eq, not_and] at hdig
   by_cases h1 : ((D[i].toNat : Nat) : Int) < 48
   ·rw [if_pos h1]
   ·rw [if_neg h1, if_pos (by have := hdig (by omega); omega)]
theorem ref_check (a : ByteArray) (ha : a.size ≤ 4611686018427387904) : Runs (fun k => R.metrolabref01_Check.f k a) (chk a) := by
 have hlen : (digs a.data.toList).length ≤ a.size := by rw [Lib.size_eq]; exact digs_len _
 unfold R.metrolabref01_Check.f
 simp only [size_f, Option.bind_some, Lib.toList_data, bas_list, bas_size]
 by_cases h0 : digs a.data.toList = []
 ·simp only [if_pos h0]
  rw [chk_nil h0]
  refine Runs.succ (Runs.pure _) fun k => ?_
  rw [R.metrolabref01_Check.j0, if_pos rfl]
 ·have hpos : 0 < (digs a.data.toList).length := List.length_pos_iff.2 h0
  simp only [if_neg h0, if_pos (show (0 : Int) < ((digs a.data.toList).length : Int) by omega)]
  have hb : bt (bas (digs a.data.toList)) 0 = 48 ↔ (digs a.data.toList).head? = some 48 := bt_head _ (by rw [bas_size]; exact hpos) 48
  have hl := rcheck_l0 (digs a.data.toList) (by omega) 0 (by omega) rfl
  have hgo : ((digs a.data.toList).head? = some 48 → a.data.toList = [48]) → Runs (fun k => R.metrolabref01_Check.j0 k (bas (digs a.data.toList)) false) (chk a) := by
   intro hx
   have e : chk a = if (digs a.data.toList).all isDig then (if (digs a.data.toList).length > 1024 then 11 else 0) else 3 := by
    by_cases hd : (digs a.data.toList).all isDig = true
    ·rw [chk_good h0 hd hx, if_pos hd]
    ·rw [chk_bad (Bool.eq_false_iff.2 hd), if_neg hd]
   rw [e]
   refine Runs.succ hl fun k => ?_
   rw [R.metrolabref01_Check.j0, if_neg (by decide)]; rfl
  have hbad : (digs a.data.toList).head? = some 48 → a.data.toList ≠ [48] → Runs (fun k => R.metrolabref01_Check.j0 k (bas (digs a.data.toList)) true) (chk a) := by
   intro hx hy
   rw [chk_lead hx hy]
   refine Runs.succ (Runs.pure _) fun k => ?_
   rw [R.metrolabref01_Check.j0, if_pos rfl]
  by_cases h48 : (digs a.data.toList).head? = some 48
  ·simp only [if_pos (hb.2 h48)]
   by_cases h1 : (digs a.data.toList).length > 1
   ·simp only [if_pos (show ((digs a.data.toList).length : Int) > 1 by omega)]
    exact hbad h48 (by intro h; rw [h] at h1; simp [digs] at h1)
   ·simp only [if_neg (show ¬ ((digs a.data.toList).length : Int) > 1 by omega)]
    by_cases h2 : a.size > 1
    ·simp only [decide_eq_true (show (a.size : Int) > 1 by omega)]
     exact hbad h48 (by intro h; rw [Lib.size_eq, h] at h2; simp at h2)
    ·simp only [decide_eq_false (show ¬ (a.size : Int) > 1 by omega)]
     refine hgo (fun _ => ?_)
     rw [Lib.size_eq] at h2
     cases hl2 : a.data.toList with
     | nil => rw [hl2] at hpos; simp [digs] at hpos
     | cons c t =>
      rw [hl2] at h2 h48 h1
      have ht : t = [] := List.eq_nil_of_length_eq_zero (by rw [List.length_cons] at h2; omega)
      subst ht
      unfold digs at h48
      by_cases h45 : ([c] : List UInt8).head? = some 45
      ·rw [if_pos h45] at h48; simp at h48
      ·rw [if_neg h45] at h48; simp at h48; rw [h48]
  ·simp only [if_neg (fun h => h48 (hb.1 h))]
   exact hgo (fun h => absurd h h48)
end Go.Proofs.YtkdpcgmnkifbbaaGreatDoor
end
