/- Joined by a program of this session out of its texts, with only what the last theorem needs: Ce Rd Tx. No conditions but those stated. -/
import Derived.Test.YtkdpcgmnkifbbaaGreatDoorZC17
import Derived.Test.YtkdpcgmnkifbbaaGreatDoorZC03
import Derived.IntWalk
import Derived.Test.YtkdpcgmnkifbbaaGreatDoorZC08
import Derived.Test.YtkdpcgmnkifbbaaGreatDoorZC15
import Derived.Lib.AtoiErrMem
import Derived.Deep.RegionWith
import Derived.Test.YtkdpcgmnkifbbaaGreatDoorZC16
import Derived.Test.YtkdpcgmnkifbbaaGreatDoorZC02
import Derived.Test.YtkdpcgmnkifbbaaGreatDoorZC07
import Derived.Lib.AppendIntMem
import Derived.Lib.ItoaLen
set_option linter.unusedVariables false
set_option linter.unusedSimpArgs false
namespace Go.Proofs.YtkdpcgmnkifbbaaGreatDoorW.PrintMore
end Go.Proofs.YtkdpcgmnkifbbaaGreatDoorW.PrintMore
namespace Go.Proofs.YtkdpcgmnkifbbaaGreatDoorW.PrintWords
end Go.Proofs.YtkdpcgmnkifbbaaGreatDoorW.PrintWords
section
namespace Go.Proofs.YtkdpcgmnkifbbaaGreatDoor
open Go.RowKit Go.Proofs.YtkdpcgmnkifbbaaGreatDoorW.PrintWords Go.Proofs.YtkdpcgmnkifbbaaGreatDoorW.PrintMore
theorem bt_nat (s : ByteArray) (i : Nat) (h : i < s.size) : bt s i = ((s.data.toList.getD i 0).toNat : Int) := by
 unfold bt
 rw [dif_pos (by simpa using h)]
 have h2 : i < s.data.toList.length := by rw [← Lib.size_eq]; exact h
 simp [List.getD, List.getElem?_eq_getElem h2, ByteArray.getElem_eq_getElem_data]
theorem bt_head (s : ByteArray) (h : 0 < s.size) (c : UInt8) : bt s 0 = (c.toNat : Int) ↔ s.data.toList.head? = some c := by
 have := bt_nat s 0 h
 rw [show ((0 : Nat) : Int) = 0 from rfl] at this
 rw [this]
 have h2 : 0 < s.data.toList.length := by rw [← Lib.size_eq]; exact h
 cases hl : s.data.toList with
 | nil => rw [hl] at h2; simp at h2
 | cons a t =>
  simp only [List.getD_cons_zero, List.head?_cons, Option.some.injEq]
  constructor
  ·intro h; exact UInt8.toNat_inj.1 (by omega)
  ·rintro rfl; rfl
theorem digs_size (a : ByteArray) : (⟨(digs a.data.toList).toArray⟩ : ByteArray).size = (digs a.data.toList).length := by
 rw [Lib.size_eq]
theorem trimPrefix_f (a : ByteArray) : C.strings_TrimPrefix.f a (⟨#[45]⟩ : ByteArray) = some ⟨(digs a.data.toList).toArray⟩ := by
 have hs1 : ((⟨#[45]⟩ : ByteArray).size : Int) = 1 := rfl
 have hs2 : (⟨#[45]⟩ : ByteArray).size = 1 := rfl
 unfold C.strings_TrimPrefix.f C.stringslite_TrimPrefix.f C.stringslite_HasPrefix.f
 rw [hs1]
 have e1 : ((1 : Int)).toNat = 1 := rfl
 by_cases h : (a.size : Int) ≥ 1
 ·rw [if_pos h, if_pos (by decide), if_pos h, if_pos (by decide), if_pos h, e1]
  have hl : 0 < a.data.toList.length := by rw [← Lib.size_eq]; omega
  rw [Lib.extract_toList, Lib.toList_data, Lib.extract_eq a]
  obtain ⟨c, t, hc⟩ : ∃ c t, a.data.toList = c :: t := by
   cases h0 : a.data.toList with
   | nil => rw [h0] at hl; simp at hl
   | cons c t => exact ⟨c, t, rfl⟩
  have hsz : a.size = t.length + 1 := by rw [Lib.size_eq, hc]; rfl
  rw [hc]
  by_cases h45 : c = 45
  ·subst h45
   simp [digs, hsz]
  ·have : ¬ ([c] : List UInt8) = [45] := by simpa using h45
   simp only [Option.bind_some, List.drop_zero, Nat.sub_zero, List.take_succ_cons, List.take_zero, beq_iff_eq, this, if_false]
   unfold digs
   rw [if_neg (by simpa using h45), ← hc, Lib.mk_data]
 ·rw [if_neg h]
  have hl : a.data.toList = [] := by
   apply List.eq_nil_of_length_eq_zero; rw [← Lib.size_eq]; omega
  simp only [Option.bind_some, Bool.false_eq_true, if_false]
  unfold digs
  rw [if_neg (by rw [hl]; simp), Lib.mk_data]
theorem trimS_nil (l cs : List UInt8) : Lib.trimS l cs = [] ↔ l.all (cs.contains ·) = true := by
 unfold Lib.trimS Lib.trimLeftS Lib.trimRightS
 have e : ∀ m : List UInt8, m.dropWhile (cs.contains ·) = [] ↔ m.all (cs.contains ·) = true := by
  intro m
  induction m with
  | nil => simp
  | cons a t ih =>
   by_cases h : cs.contains a = true
   ·rw [List.dropWhile_cons_of_pos (by exact h), ih, List.all_cons, h, Bool.true_and]
   ·rw [List.dropWhile_cons_of_neg (by exact h), List.all_cons, Bool.eq_false_iff.2 h]; simp
 have e2 : ∀ m : List UInt8, (m.dropWhile (cs.contains ·)).all (cs.contains ·) = true → m.all (cs.contains ·) = true := by
  intro m
  induction m with
  | nil => simp
  | cons a t ih =>
   by_cases h : cs.contains a = true
   ·rw [List.dropWhile_cons_of_pos (by exact h), List.all_cons, h, Bool.true_and]; exact ih
   ·rw [List.dropWhile_cons_of_neg (by exact h)]; exact id
 rw [e]
 constructor
 ·intro h
  rw [List.all_reverse] at h
  have := e2 _ h
  rwa [List.all_reverse] at this
 ·intro h
  have h1 := (e l.reverse).2 (by rw [List.all_reverse]; exact h)
  rw [h1]; rfl
set_option maxRecDepth 100000 in
theorem isDig_contains (c : UInt8) : ([48, 49, 50, 51, 52, 53, 54, 55, 56, 57] : List UInt8).contains c = isDig c := by
 have : ∀ k : Fin 256, ([48, 49, 50, 51, 52, 53, 54, 55, 56, 57] : List UInt8).contains (UInt8.ofFin k) = isDig (UInt8.ofFin k) := by decide
 exact this c.toFin
theorem goodD_cons (c : UInt8) (t : List UInt8) : goodD (c :: t) = ((c :: t).all isDig && (c != 48 || t.isEmpty)) := by
 unfold goodD
 cases t <;> simp [bne]
theorem digs_len (l : List UInt8) : (digs l).length ≤ l.length := by unfold digs; split <;> simp
theorem lead_iff (l : List UInt8) (h1 : (digs l) ≠ []) (h48 : (digs l).head? = some 48) :
  (((digs l).length == 1) && !(l.head? == some 45 && (digs l).head? == some 48)) = decide (l = [48]) := by
 rw [h48]
 unfold digs at *
 by_cases h45 : l.head? = some 45
 ·have : l ≠ [48] := by rintro rfl; simp at h45
  simp [h45, this]
 ·rw [if_neg h45] at h48 h1 ⊢
  cases l with
  | nil => simp at h48
  | cons a t =>
   simp at h48; subst h48
   cases t <;> simp
theorem chk_nil {a : ByteArray} (h : digs a.data.toList = []) : chk a = 3 := by
 unfold chk form; rw [h]; rfl
theorem chk_bad {a : ByteArray} (h : (digs a.data.toList).all isDig = false) : chk a = 3 := by
 unfold chk form goodD; rw [h]; simp
theorem chk_lead {a : ByteArray} (h : (digs a.data.toList).head? = some 48) (h2 : a.data.toList ≠ [48]) : chk a = 3 := by
 have hne : digs a.data.toList ≠ [] := by intro h0; rw [h0] at h; cases h
 have := lead_iff a.data.toList hne h
 unfold chk form goodD
 rw [if_neg]
 rw [decide_eq_false h2] at this
 rw [h] at this ⊢
 simp only [Bool.and_eq_true, Bool.or_eq_true, bne_iff_ne, beq_iff_eq, ne_eq, not_true, false_or, not_and, Bool.not_eq_true', Bool.and_eq_false_imp] at *
 intro h3 h4
 simp_all
theorem chk_good {a : ByteArray} (h0 : digs a.data.toList ≠ []) (h : (digs a.data.toList).all isDig = true) (h2 : (digs a.data.toList).head? = some 48 → a.data.toList = [48]) : chk a = if (digs a.data.toList).length > 1024 then 11 else 0 := by
 have hf : form a.data.toList = true := by
  unfold form goodD
  rw [h]
  by_cases h48 : (digs a.data.toList).head? = some 48
  ·have h3 := lead_iff a.data.toList h0 h48
   rw [decide_eq_true (h2 h48)] at h3
   simp only [Bool.and_eq_true] at h3
   simp [h3.2, h0]
   exact .inr (by simpa using h3.1)
  ·simp [h0, h48]
 unfold chk; rw [if_pos hf]
theorem check_f (a : ByteArray) (hs : a.size ≤ 9223372036854775807) (k : Nat) : C.whole_Check.f (k + 2) a = some (chk a) := by
 unfold C.whole_Check.f
 rw [trimPrefix_f]
 simp only [Option.bind_some, Lib.toList_data]
 have hlen : (digs a.data.toList).length ≤ 9223372036854775807 := Nat.le_trans (digs_len _) (by rw [← Lib.size_eq]; exact hs)
 by_cases h0 : digs a.data.toList = []
 ·rw [if_pos h0, chk_nil h0]; rfl
 ·rw [if_neg h0]
  unfold C.strings_Trim.f
  rw [if_pos ⟨by rw [digs_size]; exact hlen, rfl⟩]
  simp only [Option.bind_some]
  rw [C.whole_Check.j0]
  by_cases hd : (digs a.data.toList).all isDig = true
  ·have hd2 : (digs a.data.toList).all (([48, 49, 50, 51, 52, 53, 54, 55, 56, 57] : List UInt8).contains ·) = true := by
    rw [show (([48, 49, 50, 51, 52, 53, 54, 55, 56, 57] : List UInt8).contains ·) = isDig from funext isDig_contains]; exact hd
   have h1 := (trimS_nil (digs a.data.toList) _).2 hd2
   have hne : ¬ ((Lib.trimS (digs a.data.toList) [48, 49, 50, 51, 52, 53, 54, 55, 56, 57] != []) = true) := by rw [h1]; decide
   rw [if_neg hne]
   have hpos : 0 < (⟨(digs a.data.toList).toArray⟩ : ByteArray).size := by rw [digs_size]; exact List.length_pos_iff.2 h0
   rw [if_pos (by omega)]
   have hb : bt ⟨(digs a.data.toList).toArray⟩ 0 = 48 ↔ (digs a.data.toList).head? = some 48 := bt_head ⟨(digs a.data.toList).toArray⟩ hpos 48
   by_cases h48 : (digs a.data.toList).head? = some 48
   ·rw [if_pos (hb.2 h48)]
    rw [C.whole_Check.j1]
    by_cases h2 : a.data.toList = [48]
    ·rw [Lib.toList_data, h2]
     simp only [bne_self_eq_false, Bool.false_eq_true, if_false]
     rw [chk_good h0 hd (fun _ => h2)]
     rw [h2]; rfl
    ·rw [if_pos (by rw [Lib.toList_data]; exact bne_iff_ne.2 h2), chk_lead h48 h2]
   ·rw [if_neg (fun h => h48 (hb.1 h))]
    rw [C.whole_Check.j1]
    rw [if_neg (by decide), chk_good h0 hd (fun h => absurd h h48), digs_size]
    by_cases h3 : (digs a.data.toList).length > 1024
    ·rw [if_pos (by omega), if_pos h3]
    ·rw [if_neg (by omega), if_neg h3]
  ·have hd2 : ¬ (digs a.data.toList).all (([48, 49, 50, 51, 52, 53, 54, 55, 56, 57] : List UInt8).contains ·) = true := by
    rw [show (([48, 49, 50, 51, 52, 53, 54, 55, 56, 57] : List UInt8).contains ·) = isDig from funext isDig_contains]; exact hd
   have h1 := mt (trimS_nil (digs a.data.toList) _).1 hd2
   rw [if_pos (bne_iff_ne.2 h1), chk_bad (Bool.eq_false_iff.2 hd)]
theorem check_calls (a : ByteArray) (hs : a.size ≤ 9223372036854775807) (w : World) :
  Calls Tryz.prog 48 #[.string a] w fun e w' => e = .returned (.int .i64 (chk a)) ∧ Below w.heap.size w w' := C.whole_Check.calls 2 a (chk a) w (check_f a hs 0)
def chks : List ByteArray → Int
 | [] => 0
 | a :: l => if chk a = 0 then chks l else chk a
theorem all_l0 (l : List ByteArray) (hs : ∀ a ∈ l, a.size ≤ 9223372036854775807) (hn : l.length ≤ 4611686018427387904) (i k : Nat) (hi : i ≤ l.length) (hk : l.length - i + 3 ≤ k) : C.whole_all.l0 k l (l.length : Int) (i : Int) = some (chks (l.drop i)) := by
 induction k generalizing i with
 | zero => omega
 | succ k ih =>
  rw [C.whole_all.l0]
  by_cases h : i < l.length
  ·rw [if_pos (by omega), if_pos (by omega), if_pos (by omega)]
   have e1 : rdOf ByteArray.empty l (i : Int) = l[i] := by simp [rdOf, List.getD, List.getElem?_eq_getElem h]
   obtain ⟨j, rfl⟩ : ∃ j, k = j + 2 := ⟨k - 2, by omega⟩
   rw [e1, check_f _ (hs _ (List.getElem_mem h)) j, Option.bind_some, List.drop_eq_getElem_cons h]
   unfold chks
   by_cases h0 : chk l[i] = 0
   ·rw [if_pos h0, if_pos h0]
    have := ih (i + 1) (by omega) (by omega)
    rw [← this, IntWalk.wrap64_in _ (by omega)]; rfl
   ·rw [if_neg h0, if_neg h0]
  ·rw [if_neg (by omega), List.drop_eq_nil_of_le (by omega)]; rfl
theorem all_f (l : List ByteArray) (hs : ∀ a ∈ l, a.size ≤ 9223372036854775807) (hn : l.length ≤ 4611686018427387904) (k : Nat) (hk : l.length + 3 ≤ k) : C.whole_all.f k l = some (chks l) := by
 have := all_l0 l hs hn 0 k (by omega) (by omega)
 exact this
end Go.Proofs.YtkdpcgmnkifbbaaGreatDoor
end
section
namespace Go.Proofs.YtkdpcgmnkifbbaaGreatDoor
open Go.RowKit Go.Proofs.YtkdpcgmnkifbbaaGreatDoorW.PrintWords Go.Proofs.YtkdpcgmnkifbbaaGreatDoorW.PrintMore
theorem dnat_app (l m : List UInt8) : dnat (l ++ m) = dnat l * 10 ^ m.length + dnat m := by
 induction m using revInd with
 | nil => simp [dnat]
 | append t c ih =>
  rw [← List.append_assoc, dnat_append, dnat_append, ih, List.length_append, List.length_singleton, Nat.pow_succ, ← Nat.mul_assoc]
  omega
theorem dnat_lt {l : List UInt8} (h : l.all isDig = true) : dnat l < 10 ^ l.length := by
 induction l using revInd with
 | nil => simp [dnat]
 | append t c ih =>
  rw [List.all_append, Bool.and_eq_true] at h
  obtain ⟨u, hu, _, hv⟩ := isDig_val (by simpa using h.2)
  have := ih h.1
  rw [dnat_append, hv, List.length_append, List.length_singleton, Nat.pow_succ]; omega
theorem digitVal_of {c : UInt8} (h : isDig c = true) : Lib.digitVal c = some (c.toNat - 48) := by
 unfold isDig at h
 simp only [Bool.and_eq_true, decide_eq_true_eq] at h
 unfold Lib.digitVal; rw [if_pos h]
theorem decFrom_dnat (l : List UInt8) (h : l.all isDig = true) (acc : Nat) : Lib.decFrom acc l = some (l.foldl (fun m c => 10 * m + (c.toNat - 48)) acc) := by
 induction l generalizing acc with
 | nil => rfl
 | cons c t ih =>
  rw [List.all_cons, Bool.and_eq_true] at h
  rw [Lib.decFrom, digitVal_of h.1]
  simp only
  rw [ih h.2, List.foldl_cons, Nat.mul_comm]
theorem atoi_digits {l : List UInt8} (h : l.all isDig = true) (h0 : l ≠ []) : Lib.atoi l = some (dnat l : Int) := by
 cases l with
 | nil => exact absurd rfl h0
 | cons c t =>
  have hc : isDig c = true := by rw [List.all_cons, Bool.and_eq_true] at h; exact h.1
  have h1 : (c == 45) = false := by rw [beq_eq_false_iff_ne]; rintro rfl; simp [isDig] at hc
  have h2 : (c == 43) = false := by rw [beq_eq_false_iff_ne]; rintro rfl; simp [isDig] at hc
  unfold Lib.atoi Lib.decNat
  simp only [h1, h2, Bool.false_eq_true, if_false, List.isEmpty_cons]
  rw [decFrom_dnat _ h]; rfl
theorem all_take {l : List UInt8} (h : l.all isDig = true) (n : Nat) : (l.take n).all isDig = true := by
 rw [List.all_eq_true] at *; exact fun x hx => h x (List.mem_of_mem_take hx)
theorem all_drop {l : List UInt8} (h : l.all isDig = true) (n : Nat) : (l.drop n).all isDig = true := by
 rw [List.all_eq_true] at *; exact fun x hx => h x (List.mem_of_mem_drop hx)
theorem pow9 (i : Nat) : 10 ^ (9 * i) = BB ^ i := by rw [Nat.pow_mul, BB_pow]
theorem dnat_take {D : List UInt8} (h : D.all isDig = true) {i r : Nat} (hr : 9 * i + r = D.length) : dnat (D.take r) = dnat D / BB ^ i := by
 have h1 := dnat_app (D.take r) (D.drop r)
 rw [List.take_append_drop, List.length_drop, show D.length - r = 9 * i by omega, pow9] at h1
 have h2 := dnat_lt (all_drop h r)
 rw [List.length_drop, show D.length - r = 9 * i by omega, pow9] at h2
 rw [h1, Nat.mul_comm, Nat.mul_add_div (BB_pos i), Nat.div_eq_of_lt h2, Nat.add_zero]
theorem dnat_piece {D : List UInt8} (h : D.all isDig = true) {i r : Nat} (hr : 9 * i + r = D.length) : dnat ((D.take r).drop (r - 9)) = wd (dnat D) i := by
 have h1 := dnat_app ((D.take r).take (r - 9)) ((D.take r).drop (r - 9))
 rw [List.take_append_drop, dnat_take h hr] at h1
 have h2 := dnat_lt (all_drop (all_take h r) (r - 9))
 have hl : ((D.take r).drop (r - 9)).length = min 9 r := by
  rw [List.length_drop, List.length_take]; omega
 rw [hl] at h1 h2
 unfold wd
 have hBB : BB = 10 ^ 9 := BB_pow.symm
 rcases Nat.lt_or_ge r 9 with h9 | h9
 ·have h3 : (D.take r).take (r - 9) = [] := by rw [show r - 9 = 0 by omega]; rfl
  rw [h3, show dnat [] = 0 from rfl, Nat.zero_mul, Nat.zero_add] at h1
  rw [h1, Nat.mod_eq_of_lt]
  refine Nat.lt_of_lt_of_le h2 ?_
  rw [hBB]; exact Nat.pow_le_pow_right (by decide) (by omega)
 ·rw [show min 9 r = 9 by omega, ← hBB] at h1 h2
  rw [h1, Nat.mul_comm, Nat.mul_add_mod, Nat.mod_eq_of_lt h2]
theorem lt_BB {m L k : Nat} (h : m < 10 ^ L) (h2 : L ≤ 9 * k) : m < BB ^ k := by
 rw [← pow9]; exact Nat.lt_of_lt_of_le h (Nat.pow_le_pow_right (by decide) h2)
theorem dnat_zero_words {D : List UInt8} (h : D.all isDig = true) {i : Nat} (hi : D.length ≤ 9 * i) (j : Nat) (hj : i ≤ j) : wd (dnat D) j = 0 := by
 have h1 := dnat_lt h
 have h2 : 10 ^ D.length ≤ 10 ^ (9 * j) := Nat.pow_le_pow_right (by decide) (by omega)
 rw [pow9] at h2
 unfold wd
 rw [Nat.div_eq_of_lt (by omega), Nat.zero_mod]
def RdAt (w : World) (b : Nat) (s : Bool) (m i : Nat) : Prop := ∃ ws, Wd w b s i ws ∧ ∀ j, j < 232 → ws.getD j 0 = if j < i then (wd m j : Int) else 0
theorem RdAt.below {w w' : World} {b : Nat} {s : Bool} {m i : Nat} (h : RdAt w b s m i) (hb : Below w.heap.size w w') : RdAt w' b s m i := by
 obtain ⟨ws, h1, h2⟩ := h
 exact ⟨ws, h1.grown (c := none) ⟨hb.os, hb.tape, hb.output, hb.size, fun i hi _ => hb.block i hi⟩ (by simp), h2⟩
theorem RdAt.c1 {w : World} {b : Nat} {s : Bool} {m i : Nat} (h : RdAt w b s m i) : w.cell? ⟨b, 1, none⟩ = some (.int .i64 i) := h.choose_spec.1.c1
theorem RdAt.fz {w : World} {b : Nat} {s : Bool} {m i : Nat} (h : RdAt w b s m i) (j : Nat) : w.frozen? ⟨b, j, none⟩ = false := h.choose_spec.1.fz j
theorem RdAt.cw {w : World} {b : Nat} {s : Bool} {m i : Nat} (h : RdAt w b s m i) (hi : i < 232) : w.cell? ⟨b, 2 + i, none⟩ = some (.int .i64 0) := by
 obtain ⟨ws, h1, h2⟩ := h
 rw [h1.cw i hi, h2 i hi, if_neg (by omega)]
theorem RdAt.blt {w : World} {b : Nat} {s : Bool} {m i : Nat} (h : RdAt w b s m i) : b < w.heap.size := h.choose_spec.1.lt
theorem RdAt.step {w : World} {b : Nat} {s : Bool} {m i : Nat} (h : RdAt w b s m i) (hi : i < 232) : RdAt ((w.setCell ⟨b, 2 + i, none⟩ (.int .i64 (wd m i))).setCell ⟨b, 1, none⟩ (.int .i64 ((i : Int) + 1))) b s m (i + 1) := by
 obtain ⟨ws, h1, h2⟩ := h
 refine ⟨ws.set i (wd m i), (h1.setw i _).setn _, fun j hj => ?_⟩
 have hl := h1.len
 by_cases hji : j = i
 ·subst hji
  rw [if_pos (by omega)]
  simp [List.getD, List.getElem?_set, hl, hj]
 ·have h3 := h2 j hj
  simp only [List.getD, List.getElem?_set] at h3 ⊢
  rw [if_neg (by omega), h3]
  by_cases h4 : j < i
  ·rw [if_pos h4, if_pos (by omega)]
  ·rw [if_neg h4, if_neg (by omega)]
theorem RdAt.mid {w : World} {b : Nat} {s : Bool} {m i : Nat} (h : RdAt w b s m i) (v : Int) : (w.setCell ⟨b, 2 + i, none⟩ (.int .i64 v)).cell? ⟨b, 1, none⟩ = some (.int .i64 (i : Int)) ∧ (w.setCell ⟨b, 2 + i, none⟩ (.int .i64 v)).frozen? ⟨b, 1, none⟩ = false := by
 obtain ⟨ws, h1, h2⟩ := h
 exact ⟨(h1.setw i v).c1, (h1.setw i v).fz 1⟩
theorem below_set {B : Nat} {w0 w : World} (h : Below B w0 w) {b : Nat} (hb : B ≤ b) (j : Nat) (v : Value) : Below B w0 (w.setCell ⟨b, j, none⟩ v) := h.setCell (p := ⟨b, j, none⟩) hb v
theorem RdAt.fresh (w : World) (s : Bool) (m : Nat) : RdAt (w.alloc (.cells (Tryz.zeroCells119.setIfInBounds 0 (.bool s)) 119)) w.heap.size s m 0 := by
 refine ⟨wds 0, ?_, fun j hj => ?_⟩
 ·have := (Mg.fresh w s).at_
  rw [nw_zero] at this; exact this
 ·rw [wds_get 0 j hj, wd_zero_of_ge (by rw [nw_zero]; omega), if_neg (by omega)]; rfl
theorem atoi_calls (s : ByteArray) (n : Int) (hl : s.size ≤ 18) (h : Lib.atoi s.data.toList = some n) (w : World) :
  Calls Tryz.prog 130 #[.string s] w fun e w' => e = .returned (.tuple #[.int .i64 n, .nilIface]) ∧ Below w.heap.size w w' := by
 refine (Tryz.strconv_Atoi s n hl h w).mono ?_
 rintro e w' ⟨rfl, t, rfl⟩
 exact ⟨rfl, Lib.bytesWorld_below w _ t⟩
theorem below_draw1 {w w' : World} (h : Below w.drew.heap.size w.drew w') : Below w.heap.size w w' := ((Below.refl _ _).drew).trans h
def ReadPost (w : World) (a : ByteArray) (e : Ending) (w' : World) : Prop := e = .returned (.pointer (some ⟨w.heap.size, 0, none⟩)) ∧ Mg w' w.heap.size (decide (ival a < 0)) (ival a).natAbs ∧ Below w.heap.size w w'
theorem form_head (a : ByteArray) (h : form a.data.toList = true) : (a.data.toList.head? = some 45) ↔ ival a < 0 := by
 have h1 := form_eq h
 have h2 := itx_head (ival a)
 rwa [← h1] at h2
theorem form_ival (a : ByteArray) (h : form a.data.toList = true) : (ival a).natAbs = dnat (digs a.data.toList) := by
 unfold ival; split <;> omega
set_option maxHeartbeats 2000000 in
set_option maxRecDepth 100000 in
theorem read_calls (a : ByteArray) (h : chk a = 0) (w : World) :
  Calls Tryz.prog 93 #[.string a] w (ReadPost w a) := by
 have hf : form a.data.toList = true := by
  unfold chk at h; split at h
  ·assumption
  ·cases h
 have hlen : (digs a.data.toList).length ≤ 1024 := by
  unfold chk at h; rw [if_pos hf] at h
  rcases Nat.lt_or_ge 1024 (digs a.data.toList).length with h1 | h1
  ·rw [if_pos h1] at h; cases h
  ·exact h1
 have hgood : goodD (digs a.data.toList) = true := by unfold form at hf; rw [Bool.and_eq_true] at hf; exact hf.1
 have hall : (digs a.data.toList).all isDig = true := by unfold goodD at hgood; simp only [Bool.and_eq_true] at hgood; exact hgood.1.2
 have hne : digs a.data.toList ≠ [] := by unfold goodD at hgood; simp at hgood; exact hgood.1.1
 have hsz : 0 < a.size := by
  rw [Lib.size_eq]
  exact Nat.lt_of_lt_of_le (List.length_pos_iff.2 hne) (digs_len _)
 have hbt : (bt a 0 == 45) = decide (ival a < 0) := by
  rw [Bool.eq_iff_iff, beq_iff_eq, decide_eq_true_iff, ← form_head a hf]
  exact bt_head a hsz 45
 have HNA := Lib.hid (form_ival a hf)
 have HF := Lib.hid hf; clear hf h hgood hne
 have htp := trimPrefix_f a
 have HTP := Lib.hid htp; clear htp
 obtain ⟨D, hD⟩ : ∃ D, D = digs a.data.toList := ⟨_, rfl⟩
 rw [← hD] at hlen hall HTP HNA
 clear hD
 have HALL := Lib.hid hall; clear hall
 obtain ⟨s, hs⟩ : ∃ s, s = decide (ival a < 0) := ⟨_, rfl⟩
 rw [← hs] at hbt
 have HSG := Lib.hid hs; clear hs
 have p4 : (0 < (a.size : Int)) = True := eq_true (by omega)
 have hx4 : ∀ h : 0 < a.size, ((a[0]'h).toNat : Int) = bt a 0 := bt_at a 0
 replace hsz := eq_true hsz
 go_enter Tryz.func93, Tryz.ntmps93
 go_wp2_with fail
 refine (C.strings_TrimPrefix.calls a ⟨#[45]⟩ ⟨D.toArray⟩ _ HTP.out).mono ?_
 rintro e w1 ⟨rfl, n1, rfl⟩
 have hr1 : RdAt ((w.alloc (.cells (Tryz.zeroCells119.setIfInBounds 0 (.bool s)) 119)).drewN n1) w.heap.size s (dnat D) 0 := (RdAt.fresh w s _).below (pw_below_drewN (Below.refl _ _) _)
 have hb1 : Below w.heap.size w ((w.alloc (.cells (Tryz.zeroCells119.setIfInBounds 0 (.bool s)) 119)).drewN n1) := pw_below_drewN ((Below.refl _ _).alloc (Nat.le_refl _) _) _
 generalize ((w.alloc (.cells (Tryz.zeroCells119.setIfInBounds 0 (.bool s)) 119)).drewN n1) = w1 at hr1 hb1 ⊢
 have HR1 := Lib.hid hr1; clear hr1
 have HB1 := Lib.hid hb1; clear hb1
 obtain ⟨S, hS⟩ : ∃ S : ByteArray, S = ⟨D.toArray⟩ := ⟨_, rfl⟩
 rw [← hS]
 have hS1 : S.data.toList = D := by rw [hS]
 have HS := Lib.hid hS1; clear hS1 hS
 go_wp2
 go_loopg [3] S.size (fun g v wr => ∃ (i : Nat) (T : ByteArray), v = .string T ∧ T.size = g ∧ i ≤ 114 ∧ Hid (T.data.toList = D.take g) ∧ Hid (9 * i + g = D.length ∨ (g = 0 ∧ D.length ≤ 9 * i)) ∧ Hid (RdAt wr w.heap.size s (dnat D) i) ∧ Hid (Below w.heap.size w wr))
 case atStart => exact ⟨0, S, rfl, rfl, by omega, Lib.hid (by rw [Lib.size_eq, HS.out, List.take_length]), Lib.hid (.inl (by rw [Lib.size_eq, HS.out]; omega)), HR1, HB1⟩
 case round =>
  obtain ⟨i, T, rfl, hT, hi, HT, HI, HR, HB⟩ := hrel
  have hi232 : (i : Int) < 232 := by omega
  have hi0 : (0 : Int) ≤ (i : Int) := by omega
  have c1 := HR.out.c1
  have hlt := HR.out.blt
  rcases Nat.eq_zero_or_pos gk with h0 | h0
  ·subst h0
   have hT2 : (T.size : Int) = 0 := by omega
   go_wp2_with fail
   have hi3 : D.length ≤ 9 * i := by have := HI.out; omega
   obtain ⟨ws, hw1, hw2⟩ := HR.out
   have hm := dnat_lt HALL.out
   refine (trimmed_num w.heap.size s i (dnat D) ws wr hw1 (by omega) (lt_BB hm (by omega)) (fun j hj => ?_) (fun j hj => dnat_zero_words HALL.out hi3 j hj)).mono ?_
   ·rw [hw2 j hj]
    by_cases h1 : j < i
    ·rw [if_pos h1]
    ·rw [if_neg h1, dnat_zero_words HALL.out hi3 j (by omega)]; rfl
   rintro e w3 ⟨rfl, h1, h2⟩
   have H1 := Lib.hid h1; clear h1
   have H2 := Lib.hid (below_gby HB.out (Nat.le_refl _) HB.out.size h2); clear h2 hw1 hw2 hm
   go_wp2
   go_ret
   exact ⟨rfl, by rw [HNA.out, ← HSG.out]; exact H1.out, H2.out⟩
  ·have hT2 : (T.size : Int) > 0 := by omega
   have hTn : T.size ≤ 1024 := by
    have h1 := HT.out
    rw [Lib.size_eq, h1, List.length_take]; omega
   have hgT : gk ≤ 1024 := by omega
   go_wp2_with fail
   obtain ⟨f, hf⟩ : ∃ f : Nat, f = gk - 9 := ⟨_, rfl⟩
   have e1 : max 0 ((gk : Int) - 9) = (f : Int) := by omega
   rw [e1]
   clear e1
   have hfT : (f : Int) ≤ (T.size : Int) := by omega
   have hf0 : (0 : Int) ≤ (f : Int) := by omega
   have hfn : f ≤ T.size := by omega
   have hI : 9 * i + gk = D.length := by have := HI.out; omega
   have hpl : (T.extract f T.size).data.toList = (D.take gk).drop (gk - 9) := by
    rw [Lib.extract_data, HT.out, ← hf, hT, List.take_of_length_le]
    rw [List.length_drop, List.length_take]; omega
   have hps : (T.extract f T.size).size ≤ 18 := by rw [ByteArray.size_extract]; omega
   have hpa : Lib.atoi (T.extract f T.size).data.toList = some (wd (dnat D) i : Int) := by
    rw [hpl, atoi_digits (all_drop (all_take HALL.out gk) (gk - 9)) (by
     intro h1
     have h2 := congrArg List.length h1
     rw [List.length_drop, List.length_take, List.length_nil] at h2; omega), dnat_piece HALL.out hI]
   have HPS := Lib.hid hps; clear hps hpl
   have HFE := Lib.hid hf; clear hf
   have HTS := Lib.hid hT; clear hT
   have HPA := Lib.hid hpa; clear hpa
   have hwd := wd_lt (dnat D) i
   have hst := HR.out
   have cw := hst.cw (by omega)
   have fz := hst.fz (2 + i)
   clear hst
   generalize hv : (wd (dnat D) i : Int) = v at HPA
   have HV := Lib.hid hv; clear hv hwd
   go_region_with (go_at_call 130; refine (atoi_calls (T.extract f T.size) v HPS.out HPA.out wr.drew).mono ?_; rintro e w5 ⟨rfl, hb5⟩; have hr5 := HR.out.below (w' := w5) (below_draw1 hb5); have k1 := hr5.c1; have k2 := hr5.fz (2 + i); have k3 := hr5.cw (by omega); have HR5 := Lib.hid hr5; clear hr5; have HB5 := Lib.hid (below_draw1 hb5); clear hb5)
   all_goals (
    have hs5 := HR5.out.step (by omega)
    rw [HV.out] at hs5
    obtain ⟨g1, g2⟩ := HR5.out.mid v
    have hb6 : Below w.heap.size w ((w5.setCell ⟨w.heap.size, 2 + i, none⟩ (.int .i64 v)).setCell ⟨w.heap.size, 1, none⟩ (.int .i64 ((i : Int) + 1))) :=
     below_set (below_set (below_then HB.out HB.out.size HB5.out) (Nat.le_refl _) _ _) (Nat.le_refl _) _ _
    generalize (w5.setCell ⟨w.heap.size, 2 + i, none⟩ (.int .i64 v)) = w6 at hs5 g1 g2 hb6 ⊢
    have HS5 := Lib.hid hs5; clear hs5
    have HB6 := Lib.hid hb6; clear hb6
    clear k1 k2 k3 cw fz c1
    go_wp2
    go_roundg f
    case measure => have := HFE.out; omega
    case rel => exact ⟨i + 1, T.extract 0 f, by first | rfl | (congr 2; simp), by rw [ByteArray.size_extract]; omega, by have := HFE.out; omega, Lib.hid (by have h1 := HFE.out; have h2 := HT.out; rw [Lib.extract_data, h2, List.drop_zero, Nat.sub_zero, List.take_take]; congr 1; omega), Lib.hid (by have := HFE.out; omega), HS5, HB6⟩)
end Go.Proofs.YtkdpcgmnkifbbaaGreatDoor
end
section
namespace Go.Proofs.YtkdpcgmnkifbbaaGreatDoor
open Go.RowKit
theorem itoa_calls (n : Int) (h0 : -9223372036854775808 ≤ n) (h1 : n ≤ 9223372036854775807) (w : World) (ht : Tabs w) :
  Calls Tryz.prog 119 #[.int .i64 n] w fun e w' => e = .returned (.string (itx n)) ∧ Below w.heap.size w w' := by
 refine (Tryz.strconv_Itoa n h0 h1 w ht).mono ?_
 rintro e w' ⟨rfl, k, os, rfl⟩
 exact ⟨rfl, Lib.below_grow _ w (Nat.le_refl _) k os⟩
theorem IsB.below {T e : TypeId} {B b : Nat} {bs : List Value} {W W' : World} (h : Lib.IsBuilderF T e B b bs W) (hb : Below W.heap.size W W') : Lib.IsBuilderF T e B b bs W' := by
 have key : ∀ p, Lib.BuilderAtF T e B b p bs W → Lib.BuilderAtF T e B b p bs W' := by
  intro p h
  have hlt := h.lt
  obtain ⟨hB, v, hbk, hown, hne⟩ := h
  refine ⟨hB, v, by rw [hb.block b hlt]; exact hbk, hown.kept (row := none) ⟨hb.os, hb.tape, hb.output, hb.size, fun i hi _ => hb.block i hi⟩ (by cases v.ownBlock <;> simp), hne⟩
 exact h.imp (key _) (key _)
theorem itx_zero : itx 0 = ⟨#[48]⟩ := by
 unfold itx Lib.itoa; rw [if_neg (by omega), dd_small (by decide)]; rfl
theorem itx_size_le (v : Int) (h0 : -9223372036854775808 ≤ v) (h1 : v ≤ 9223372036854775807) : (itx v).size ≤ 21 := by
 have := Lib.itoa_length_le v h0 h1
 simpa [itx, ByteArray.size] using this
theorem text_end_false (m : Nat) (h : ¬ m = 0) : Ending.returned (.string ⟨([] ++ Lib.decDigits m).toArray⟩) = Ending.returned (.string (itx (sg false m))) := by
 unfold sg itx; rw [if_neg (by decide), itoa_nat]; rfl
theorem text_end_true (m : Nat) (h : ¬ m = 0) : Ending.returned (.string ⟨([45] ++ Lib.decDigits m).toArray⟩) = Ending.returned (.string (itx (sg true m))) := by
 unfold sg itx Lib.itoa; rw [if_pos rfl, if_pos (by omega), show (-(m : Int)).natAbs = m by omega]; rfl
theorem nine (u : Int) {v : Nat} (h : u = (v : Int)) (hv : v < 1000000000) : (itx u).size ≤ 9 := by
 subst h
 have := (pad_eq 8 v hv).1
 rw [← itoa_nat] at this
 simpa [itx, ByteArray.size] using this
theorem Tabs.drew {w : World} (h : Tabs w) : Tabs w.drew := h.below ((Below.refl _ _).drew)
theorem IsB.drew {T e : TypeId} {B b : Nat} {bs : List Value} {W : World} (h : Lib.IsBuilderF T e B b bs W) : Lib.IsBuilderF T e B b bs W.drew := h.imp Lib.BuilderAtF.drew Lib.BuilderAtF.drew
theorem zeros9 (k : Nat) (hk : k ≤ 9) : (({ data := #[48, 48, 48, 48, 48, 48, 48, 48, 48] } : ByteArray).extract k 9).data.toList = List.replicate (9 - k) 48 := by
 have : ∀ k : Fin 10, (({ data := #[48, 48, 48, 48, 48, 48, 48, 48, 48] } : ByteArray).extract k.val 9).data.toList = List.replicate (9 - k.val) 48 := by decide
 exact this ⟨k, by omega⟩
theorem pad_str {m g : Nat} (u : Int) (h : (wd m g : Int) = u) : (({ data := #[48, 48, 48, 48, 48, 48, 48, 48, 48] } : ByteArray).extract (itx u).size 9 ++ itx u).data.toList = List.replicate (9 - (Lib.decDigits (wd m g)).length) 48 ++ Lib.decDigits (wd m g) := by
 have h9 := nine u h.symm (wd_lt m g)
 rw [ByteArray.data_append, Array.toList_append, zeros9 _ h9, itx_list, ← h, itoa_nat]
 congr 2
theorem pad_size (u : Int) (h : (itx u).size ≤ 9) : (({ data := #[48, 48, 48, 48, 48, 48, 48, 48, 48] } : ByteArray).extract (itx u).size 9 ++ itx u).size ≤ 18 := by
 rw [ByteArray.size_append, ByteArray.size_extract]
 have : ({ data := #[48, 48, 48, 48, 48, 48, 48, 48, 48] } : ByteArray).size = 9 := rfl
 omega
theorem dd_len (u k : Nat) (h : u < 10 ^ k) (hk : 0 < k) : (Lib.decDigits u).length ≤ k := by
 obtain ⟨j, rfl⟩ : ∃ j, k = j + 1 := ⟨k - 1, by omega⟩
 exact (pad_eq j u h).1
theorem text_len (m g : Nat) {n : Nat} (h : nw m = n + 1) (hn : n + 1 ≤ 232) : (Lib.decDigits (m / BB ^ g)).length ≤ 2088 := by
 have key : ∀ a b : Nat, m / BB ^ g < 10 ^ (a * b) → 0 < a * b → (Lib.decDigits (m / BB ^ g)).length ≤ a * b := fun a b hk h0 => dd_len _ (a * b) hk h0
 have h1 : m / BB ^ g ≤ m := Nat.div_le_self _ _
 have h2 : m < BB ^ 232 := Nat.lt_of_lt_of_le (lt_nw m) (Nat.pow_le_pow_right (by decide) (by omega))
 have h3 : ∀ k, BB ^ k = 10 ^ (9 * k) := fun k => by rw [← BB_pow, ← Nat.pow_mul]
 have h4 : ∀ k, m < BB ^ k → m < 10 ^ (9 * k) := fun k h => h3 k ▸ h
 exact key 9 232 (Nat.lt_of_le_of_lt h1 (h4 232 h2)) (by decide)
theorem text_room (pre : List UInt8) (hp : pre.length ≤ 1) {l : List UInt8} (hl : l.length ≤ 2088) {S : ByteArray} (hs : S.size ≤ 18) : (Lib.byteCells (pre ++ l)).length + S.size ≤ 140737488355328 := by
 rw [Lib.byteCells_length, List.length_append]
 omega
theorem text_pos (m g : Nat) {n : Nat} (h : nw m = n + 1) (hg : g + 1 ≤ n) : 0 < m / BB ^ (g + 1) := by
 rcases Nat.eq_zero_or_pos (m / BB ^ (g + 1)) with h0 | h0
 ·have : m < BB ^ (g + 1) := (Nat.div_eq_zero_iff.1 h0).resolve_left (by have := BB_pos (g + 1); omega)
  have := nw_le this
  omega
 ·exact h0
theorem strs_app (l : List UInt8) (s : ByteArray) : Lib.byteCells l ++ Lib.strCells s = Lib.byteCells (l ++ s.data.toList) := by
 rw [Lib.byteCells_append]; rfl
theorem top_word {m n : Nat} (h : nw m = n + 1) : m / BB ^ n = wd m n := by
 have h1 := div_wd m n
 have h2 : m / BB ^ (n + 1) = 0 := Nat.div_eq_of_lt (by have := lt_nw m; rwa [h] at this)
 rw [h2, Nat.mul_zero, Nat.zero_add] at h1
 exact h1
def TextPost (w : World) (v : Int) (e : Ending) (w' : World) : Prop := e = .returned (.string (itx v)) ∧ Below w.heap.size w w'
set_option maxRecDepth 100000 in
theorem text_zero (b : Nat) (s : Bool) (w : World) (hx : Mg w b s 0) :
  Calls Tryz.prog 102 #[.pointer (some ⟨b, 0, none⟩)] w (TextPost w (sg s 0)) := by
 have c1 := hx.c1
 have HX := Lib.hid hx; clear hx
 rw [nw_zero] at c1
 have hfin : Hid (sg s 0 = 0) := Lib.hid (by cases s <;> rfl)
 go_enter Tryz.func102, Tryz.ntmps102
 go_wp2
 go_ret
 exact ⟨by rw [hfin.out, itx_zero]; rfl, Below.refl _ _⟩
set_option maxHeartbeats 2000000 in
set_option maxRecDepth 100000 in
theorem text_false (b m n : Nat) (w : World) (hx : Mg w b false m) (ht : Tabs w) (hm0 : ¬m = 0) (hne : nw m = n + 1) :
  Calls Tryz.prog 102 #[.pointer (some ⟨b, 0, none⟩)] w (TextPost w (sg false m)) := by
 have c0 := hx.c0
 have c1 := hx.c1
 have hn := hx.nw
 have hlt := hx.blt
 have HX := Lib.hid hx; clear hx
 have HT := Lib.hid ht; clear ht
 rw [hne] at c1 hn
 have hc1 : w.cell? ⟨b, 1, none⟩ = some (.int .i64 ((n : Int) + 1)) := c1
 clear c1
 have HNE := Lib.hid hne; clear hne
 have hn0 : ((n : Int) + 1 == 0) = false := by rw [beq_eq_false_iff_ne]; omega
 go_enter Tryz.func102, Tryz.ntmps102
 go_wp2
 have hib : Lib.IsBuilderF 163 5 w.heap.size w.heap.size (Lib.byteCells []) (w.alloc (Obj.cells #[Value.pointer none, Value.slice none 0 0] 163)) := .of (Lib.fresh_isBuilder _ _ w)
 have hbl : Below w.heap.size w (w.alloc (Obj.cells #[Value.pointer none, Value.slice none 0 0] 163)) := (Below.refl _ _).alloc (Nat.le_refl _) _
 generalize w.alloc (Obj.cells #[Value.pointer none, Value.slice none 0 0] 163) = W at hib hbl ⊢
 have HBL := Lib.hid hbl; clear hbl
 have HIB := Lib.hid hib; clear hib
 have hxW : Mg W b false m := HX.out.below HBL.out
 have HXW := Lib.hid hxW; clear hxW
 have c1 : W.cell? ⟨b, 1, none⟩ = some (.int .i64 ((n : Int) + 1)) := by have := HXW.out.c1; rw [HNE.out] at this; exact this
 have c2 := HXW.out.cw n (by omega)
 have hn232 : (n : Int) < 232 := by omega
 have hv := wd_lt m n
 have htW : Tabs W := HT.out.below HBL.out
 have HTW := Lib.hid htW; clear htW
 generalize hve : (wd m n : Int) = v at c2
 have hv0 : 0 ≤ v ∧ v < 1000000000 := by omega
 have HVE := Lib.hid hve; clear hve
 obtain ⟨hv1, hv2⟩ := hv0
 go_wp2
 have hz := itx_size_le v (by omega) (by omega)
 have HZ := Lib.hid hz; clear hz
 have hsum : IntKind.i64.wrap (n : Int) = (n : Int) := by rw [IntKind.wrap_i64]; omega
 have hn00 : (0 : Int) ≤ (n : Int) := by omega
 go_region_with (first | (go_at_call 119; refine (itoa_calls v (by omega) (by omega) W.drew (Tabs.drew HTW.out)).mono ?_; rintro e w1 ⟨rfl, hb1⟩; have HB1 := Lib.hid hb1; clear hb1) | (go_at_call 137; refine (writeString_k w.heap.size w.heap.size (Lib.byteCells []) (itx v) _ (IsB.below (W := W.drew) (IsB.drew HIB.out) HB1.out) (by have := HZ.out; simp [Lib.byteCells]; omega) (by have := HB1.out.size; have h5 := HBL.out.size; exact Nat.le_trans h5 this)).mono ?_; rintro e w2 ⟨rfl, hb2, hb3⟩; have HB2 := Lib.hid hb2; clear hb2; have HB3 := Lib.hid hb3; clear hb3))
 have hbl2 : Below w.heap.size w w2 := ((HBL.out.drew).trans (HB1.out.mono (by have := HBL.out.size; exact this))).trans HB3.out
 have hib2 : Lib.IsBuilderF 163 5 w.heap.size w.heap.size (Lib.byteCells ([] ++ Lib.decDigits (m / BB ^ n))) w2 := .inr (by
  have h1 := HB2.out
  rw [strs_app] at h1
  rw [top_word HNE.out, ← itoa_nat, HVE.out, ← itx_list]
  exact h1)
 have HBL2 := Lib.hid hbl2; clear hbl2
 have HIB2 := Lib.hid hib2; clear hib2
 have d1 : w2.cell? ⟨b, 1, none⟩ = some (.int .i64 ((n : Int) + 1)) := by have := (HX.out.below HBL2.out).c1; rw [HNE.out] at this; exact this
 clear c1 c2 hc1 hsum hn0
 go_wp2
 have e1 : (n : Int) + 1 - 2 = (n : Int) - 1 := by omega
 (try rw [e1])
 clear e1
 go_loopg [4] n (fun g v4 wr => g ≤ n ∧ v4 = .int .i64 ((g : Int) - 1) ∧ Hid (Lib.IsBuilderF 163 5 w.heap.size w.heap.size (Lib.byteCells ([] ++ Lib.decDigits (m / BB ^ g))) wr) ∧ Hid (Below w.heap.size w wr))
 case atStart => exact ⟨Nat.le_refl _, rfl, HIB2, HBL2⟩
 case round =>
  obtain ⟨hg, rfl, HIr, HBr⟩ := hrel
  rcases Nat.eq_zero_or_pos gk with h0 | h0
  ·subst h0
   go_wp2_with fail
   refine (Tryz.Builder_String_any_k w.heap.size w.heap.size _ wr HIr.out HBr.out.size).mono ?_
   rintro e w9 ⟨rfl, hi9, hb9, _⟩
   have HB9 := Lib.hid hb9; clear hb9 hi9
   go_wp2
   go_ret
   exact ⟨text_end_false m hm0, HBr.out.trans HB9.out⟩
  ·obtain ⟨g, rfl⟩ : ∃ g, gk = g + 1 := ⟨gk - 1, by omega⟩
   have e1 : ((g + 1 : Nat) : Int) - 1 = g := by omega
   rw [e1]
   clear e1 h0
   have hcg := (HX.out.below HBr.out).cw g (by omega)
   have hg232 : (g : Int) < 232 := by omega
   have hu := wd_lt m g
   generalize hue : (wd m g : Int) = u at hcg
   have hu0 : 0 ≤ u ∧ u < 1000000000 := by omega
   have hu9 := nine u hue.symm hu
   have HUE := Lib.hid hue; clear hue
   obtain ⟨hu1, hu2⟩ := hu0
   clear hu
   go_wp2_with fail
   refine (itoa_calls u (by omega) (by omega) wr (HT.out.below HBr.out)).mono ?_
   rintro e w5 ⟨rfl, hb5⟩
   have HB5 := Lib.hid hb5; clear hb5
   have hu10 : ((itx u).size : Int) ≤ 9 := by omega
   go_wp2_with fail
   have hs2 := pad_str u HUE.out
   have HS2 := Lib.hid hs2; clear hs2
   have hs3 := pad_size u hu9
   generalize ({ data := #[48, 48, 48, 48, 48, 48, 48, 48, 48] } : ByteArray).extract (itx u).size 9 ++ itx u = S at HS2 hs3 ⊢
   have HS3 := Lib.hid hs3; clear hs3
   refine (writeString_k w.heap.size w.heap.size _ S w5 (IsB.below HIr.out HB5.out) (text_room _ (by decide) (text_len m (g + 1) HNE.out hn) HS3.out) (by have := HBr.out.size; have h2 := HB5.out.size; omega)).mono ?_
   rintro e w7 ⟨rfl, hb7, hb8⟩
   have HB7 := Lib.hid hb7; clear hb7
   have HB8 := Lib.hid hb8; clear hb8
   go_wp2
   go_roundg g
   case measure => omega
   case rel => exact ⟨by omega, rfl, Lib.hid (.inr (by
    have h1 := HB7.out
    rw [strs_app, HS2.out] at h1
    rw [dd_words m g (text_pos m g HNE.out hg), ← List.append_assoc]
    exact h1)), Lib.hid ((HBr.out.trans (HB5.out.mono HBr.out.size)).trans HB8.out)⟩
set_option maxHeartbeats 2000000 in
set_option maxRecDepth 100000 in
theorem text_true (b m n : Nat) (w : World) (hx : Mg w b true m) (ht : Tabs w) (hm0 : ¬m = 0) (hne : nw m = n + 1) :
  Calls Tryz.prog 102 #[.pointer (some ⟨b, 0, none⟩)] w (TextPost w (sg true m)) := by
 have c0 := hx.c0
 have c1 := hx.c1
 have hn := hx.nw
 have hlt := hx.blt
 have HX := Lib.hid hx; clear hx
 have HT := Lib.hid ht; clear ht
 rw [hne] at c1 hn
 have hc1 : w.cell? ⟨b, 1, none⟩ = some (.int .i64 ((n : Int) + 1)) := c1
 clear c1
 have HNE := Lib.hid hne; clear hne
 have hn0 : ((n : Int) + 1 == 0) = false := by rw [beq_eq_false_iff_ne]; omega
 go_enter Tryz.func102, Tryz.ntmps102
 go_wp2_with fail
 refine (writeByte_k w.heap.size w.heap.size (Lib.byteCells []) 45 (w.alloc (Obj.cells #[Value.pointer none, Value.slice none 0 0] 163)) (.of (Lib.fresh_isBuilder _ _ w)) (by decide) (by simp)).mono ?_
 rintro e W ⟨rfl, hat, hbl0⟩
 have hib : Lib.IsBuilderF 163 5 w.heap.size w.heap.size (Lib.byteCells [45]) W := .inr hat
 have hbl : Below w.heap.size w W := ((Below.refl _ _).alloc (Nat.le_refl _) _).trans hbl0
 clear hat hbl0
 have HBL := Lib.hid hbl; clear hbl
 have HIB := Lib.hid hib; clear hib
 have hxW : Mg W b true m := HX.out.below HBL.out
 have HXW := Lib.hid hxW; clear hxW
 have c1 : W.cell? ⟨b, 1, none⟩ = some (.int .i64 ((n : Int) + 1)) := by have := HXW.out.c1; rw [HNE.out] at this; exact this
 have c2 := HXW.out.cw n (by omega)
 have hn232 : (n : Int) < 232 := by omega
 have hv := wd_lt m n
 have htW : Tabs W := HT.out.below HBL.out
 have HTW := Lib.hid htW; clear htW
 generalize hve : (wd m n : Int) = v at c2
 have hv0 : 0 ≤ v ∧ v < 1000000000 := by omega
 have HVE := Lib.hid hve; clear hve
 obtain ⟨hv1, hv2⟩ := hv0
 go_wp2
 have hz := itx_size_le v (by omega) (by omega)
 have HZ := Lib.hid hz; clear hz
 have hsum : IntKind.i64.wrap (n : Int) = (n : Int) := by rw [IntKind.wrap_i64]; omega
 have hn00 : (0 : Int) ≤ (n : Int) := by omega
 go_region_with (first | (go_at_call 119; refine (itoa_calls v (by omega) (by omega) W.drew (Tabs.drew HTW.out)).mono ?_; rintro e w1 ⟨rfl, hb1⟩; have HB1 := Lib.hid hb1; clear hb1) | (go_at_call 137; refine (writeString_k w.heap.size w.heap.size (Lib.byteCells [45]) (itx v) _ (IsB.below (W := W.drew) (IsB.drew HIB.out) HB1.out) (by have := HZ.out; simp [Lib.byteCells]; omega) (by have := HB1.out.size; have h5 := HBL.out.size; exact Nat.le_trans h5 this)).mono ?_; rintro e w2 ⟨rfl, hb2, hb3⟩; have HB2 := Lib.hid hb2; clear hb2; have HB3 := Lib.hid hb3; clear hb3))
 have hbl2 : Below w.heap.size w w2 := ((HBL.out.drew).trans (HB1.out.mono (by have := HBL.out.size; exact this))).trans HB3.out
 have hib2 : Lib.IsBuilderF 163 5 w.heap.size w.heap.size (Lib.byteCells ([45] ++ Lib.decDigits (m / BB ^ n))) w2 := .inr (by
  have h1 := HB2.out
  rw [strs_app] at h1
  rw [top_word HNE.out, ← itoa_nat, HVE.out, ← itx_list]
  exact h1)
 have HBL2 := Lib.hid hbl2; clear hbl2
 have HIB2 := Lib.hid hib2; clear hib2
 have d1 : w2.cell? ⟨b, 1, none⟩ = some (.int .i64 ((n : Int) + 1)) := by have := (HX.out.below HBL2.out).c1; rw [HNE.out] at this; exact this
 clear c1 c2 hc1 hsum hn0
 go_wp2
 have e1 : (n : Int) + 1 - 2 = (n : Int) - 1 := by omega
 (try rw [e1])
 clear e1
 go_loopg [4] n (fun g v4 wr => g ≤ n ∧ v4 = .int .i64 ((g : Int) - 1) ∧ Hid (Lib.IsBuilderF 163 5 w.heap.size w.heap.size (Lib.byteCells ([45] ++ Lib.decDigits (m / BB ^ g))) wr) ∧ Hid (Below w.heap.size w wr))
 case atStart => exact ⟨Nat.le_refl _, rfl, HIB2, HBL2⟩
 case round =>
  obtain ⟨hg, rfl, HIr, HBr⟩ := hrel
  rcases Nat.eq_zero_or_pos gk with h0 | h0
  ·subst h0
   go_wp2_with fail
   refine (Tryz.Builder_String_any_k w.heap.size w.heap.size _ wr HIr.out HBr.out.size).mono ?_
   rintro e w9 ⟨rfl, hi9, hb9, _⟩
   have HB9 := Lib.hid hb9; clear hb9 hi9
   go_wp2
   go_ret
   exact ⟨text_end_true m hm0, HBr.out.trans HB9.out⟩
  ·obtain ⟨g, rfl⟩ : ∃ g, gk = g + 1 := ⟨gk - 1, by omega⟩
   have e1 : ((g + 1 : Nat) : Int) - 1 = g := by omega
   rw [e1]
   clear e1 h0
   have hcg := (HX.out.below HBr.out).cw g (by omega)
   have hg232 : (g : Int) < 232 := by omega
   have hu := wd_lt m g
   generalize hue : (wd m g : Int) = u at hcg
   have hu0 : 0 ≤ u ∧ u < 1000000000 := by omega
   have hu9 := nine u hue.symm hu
   have HUE := Lib.hid hue; clear hue
   obtain ⟨hu1, hu2⟩ := hu0
   clear hu
   go_wp2_with fail
   refine (itoa_calls u (by omega) (by omega) wr (HT.out.below HBr.out)).mono ?_
   rintro e w5 ⟨rfl, hb5⟩
   have HB5 := Lib.hid hb5; clear hb5
   have hu10 : ((itx u).size : Int) ≤ 9 := by omega
   go_wp2_with fail
   have hs2 := pad_str u HUE.out
   have HS2 := Lib.hid hs2; clear hs2
   have hs3 := pad_size u hu9
   generalize ({ data := #[48, 48, 48, 48, 48, 48, 48, 48, 48] } : ByteArray).extract (itx u).size 9 ++ itx u = S at HS2 hs3 ⊢
   have HS3 := Lib.hid hs3; clear hs3
   refine (writeString_k w.heap.size w.heap.size _ S w5 (IsB.below HIr.out HB5.out) (text_room _ (by decide) (text_len m (g + 1) HNE.out hn) HS3.out) (by have := HBr.out.size; have h2 := HB5.out.size; omega)).mono ?_
   rintro e w7 ⟨rfl, hb7, hb8⟩
   have HB7 := Lib.hid hb7; clear hb7
   have HB8 := Lib.hid hb8; clear hb8
   go_wp2
   go_roundg g
   case measure => omega
   case rel => exact ⟨by omega, rfl, Lib.hid (.inr (by
    have h1 := HB7.out
    rw [strs_app, HS2.out] at h1
    rw [dd_words m g (text_pos m g HNE.out hg), ← List.append_assoc]
    exact h1)), Lib.hid ((HBr.out.trans (HB5.out.mono HBr.out.size)).trans HB8.out)⟩
theorem text_calls (b : Nat) (s : Bool) (m : Nat) (w : World) (hx : Mg w b s m) (ht : Tabs w) :
  Calls Tryz.prog 102 #[.pointer (some ⟨b, 0, none⟩)] w (TextPost w (sg s m)) := by
 by_cases hm0 : m = 0
 ·subst hm0
  exact text_zero b s w hx
 ·obtain ⟨n, hne⟩ : ∃ n, nw m = n + 1 := ⟨nw m - 1, by have := nw_succ hm0; omega⟩
  cases s
  ·exact text_false b m n w hx ht hm0 hne
  ·exact text_true b m n w hx ht hm0 hne
end Go.Proofs.YtkdpcgmnkifbbaaGreatDoor
end
