/- Joined by a program of this session out of its texts, with only what the last theorem needs: Sm Mu Pa Gc Bi LO. No conditions but those stated. -/
import Derived.Test.YtkdpcgmnkifbbaaGreatDoorZM12
import Derived.Test.YtkdpcgmnkifbbaaGreatDoorZM07
set_option linter.unusedVariables false
set_option linter.unusedSimpArgs false
namespace Go.Proofs.YtkdpcgmnkifbbaaGreatDoorW.PrintMore
end Go.Proofs.YtkdpcgmnkifbbaaGreatDoorW.PrintMore
namespace Go.Proofs.YtkdpcgmnkifbbaaGreatDoorW.PrintWords
end Go.Proofs.YtkdpcgmnkifbbaaGreatDoorW.PrintWords
section
namespace Go.Proofs.YtkdpcgmnkifbbaaGreatDoor
open Go.RowKit Go.Proofs.YtkdpcgmnkifbbaaGreatDoorW.PrintWords Go.Proofs.YtkdpcgmnkifbbaaGreatDoorW.PrintMore
theorem chk_form {a : ByteArray} (h : chk a = 0) : form a.data.toList = true := by
 unfold chk at h; split at h
 ·assumption
 ·cases h
theorem form_all {l : List UInt8} (h : form l = true) : (digs l).all isDig = true ∧ digs l ≠ [] := by
 have h1 : goodD (digs l) = true := by unfold form at h; rw [Bool.and_eq_true] at h; exact h.1
 unfold goodD at h1
 simp only [Bool.and_eq_true, Bool.not_eq_true', List.isEmpty_eq_false_iff] at h1
 exact ⟨h1.1.2, h1.1.1⟩
theorem atoi_form {a : ByteArray} (h : form a.data.toList = true) : Lib.atoi a.data.toList = some (ival a) := by
 obtain ⟨h1, h2⟩ := form_all h
 unfold ival
 by_cases h45 : a.data.toList.head? = some 45
 ·rw [if_pos h45]
  cases hl : a.data.toList with
  | nil => rw [hl] at h45; cases h45
  | cons c t =>
   rw [hl] at h45 h1 h2
   simp at h45; subst h45
   have e : digs (45 :: t) = t := by simp [digs]
   rw [e] at h1 h2 ⊢
   unfold Lib.atoi Lib.decNat
   cases t with
   | nil => exact absurd rfl h2
   | cons d u =>
    simp only [beq_self_eq_true, if_true, List.isEmpty_cons, Bool.false_eq_true, if_false]
    rw [decFrom_dnat _ h1]; rfl
 ·rw [if_neg h45]
  have e : digs a.data.toList = a.data.toList := by unfold digs; rw [if_neg h45]
  rw [e] at h1 h2 ⊢
  exact atoi_digits h1 h2
def smallF (a b : ByteArray) : Int × Int × Bool := if a.size ≤ 9 ∧ b.size ≤ 9 then (ival a, ival b, true) else (0, 0, false)
def SmallPost (w : World) (a b : ByteArray) (e : Ending) (w' : World) : Prop := e = .returned (.tuple #[.int .i64 (smallF a b).1, .int .i64 (smallF a b).2.1, .bool (smallF a b).2.2]) ∧ Below w.heap.size w w'
theorem small_post_false {w w' : World} {a b : ByteArray} (h : ¬ (a.size ≤ 9 ∧ b.size ≤ 9)) (hb : Below w.heap.size w w') : SmallPost w a b (.returned (.tuple #[.int .i64 0, .int .i64 0, .bool false])) w' := by
 unfold SmallPost smallF; rw [if_neg h]; exact ⟨rfl, hb⟩
theorem small_post_true {w w' : World} {a b : ByteArray} (h : a.size ≤ 9 ∧ b.size ≤ 9) (hb : Below w.heap.size w w') : SmallPost w a b (.returned (.tuple #[.int .i64 (ival a), .int .i64 (ival b), .bool true])) w' := by
 unfold SmallPost smallF; rw [if_pos h]; exact ⟨rfl, hb⟩
set_option maxRecDepth 100000 in
set_option maxHeartbeats 2000000 in
theorem small_calls (a b : ByteArray) (w : World) (ha : chk a = 0) (hb : chk b = 0) :
  Calls Tryz.prog 114 #[.string a, .string b] w (SmallPost w a b) := by
 have haf := atoi_form (chk_form ha)
 have hbf := atoi_form (chk_form hb)
 have HA := Lib.hid haf; clear haf ha
 have HB := Lib.hid hbf; clear hbf hb
 by_cases h1 : (a.size : Int) > 9
 ·go_enter Tryz.func114, Tryz.ntmps114
  go_wp2
  go_ret3
  exact small_post_false (by omega) (by repeat (first | exact Below.refl _ _ | apply Below.drew))
 ·by_cases h2 : (b.size : Int) > 9
  ·go_enter Tryz.func114, Tryz.ntmps114
   go_wp2
   go_ret3
   exact small_post_false (by omega) (by repeat (first | exact Below.refl _ _ | apply Below.drew))
  ·generalize hA : ival a = m at HA
   generalize hB : ival b = n at HB
   have HAV := Lib.hid hA; clear hA
   have HBV := Lib.hid hB; clear hB
   have HSA : Hid (a.size ≤ 9) := Lib.hid (by omega)
   have HSB : Hid (b.size ≤ 9) := Lib.hid (by omega)
   go_enter Tryz.func114, Tryz.ntmps114
   go_wp2_with fail
   refine (atoi_calls a m (by have := HSA.out; omega) HA.out _).mono ?_
   rintro e w1 ⟨rfl, hb1⟩
   have HB1 := Lib.hid hb1; clear hb1
   go_wp2_with fail
   refine (atoi_calls b n (by have := HSB.out; omega) HB.out _).mono ?_
   rintro e w2 ⟨rfl, hb2⟩
   have HB2 := Lib.hid hb2; clear hb2
   go_wp2
   go_ret3
   have := small_post_true (w := w) (w' := w2) ⟨HSA.out, HSB.out⟩ (below_then HB1.out HB1.out.size HB2.out)
   rw [HAV.out, HBV.out] at this
   exact this
def KeptPost (w : World) (v : Int) (e : Ending) (w' : World) : Prop := e = .returned (.tuple #[.string (kept v).1, .int .i64 (kept v).2]) ∧ Below w.heap.size w w'
theorem itx_size (v : Int) (k : Nat) (h : v.natAbs < 10 ^ (k + 1)) : (itx v).size ≤ k + 2 := by
 rw [Lib.size_eq, itx_list]
 have h1 := (dd_le_iff v.natAbs k).2 h
 unfold Lib.itoa
 split
 ·rw [List.length_cons]; omega
 ·rename_i h2
  rw [show v.toNat = v.natAbs by omega]; omega
theorem sg_abs (s : Bool) (m : Nat) : (sg s m).natAbs = m := by unfold sg; split <;> omega
theorem itx_room (v : Int) {m k : Nat} (h : v.natAbs = m) (hm : m < BB ^ k) (hk : k ≤ 1000) : (itx v).size ≤ 9223372036854775807 := by
 rw [← pow9, ← h] at hm
 rcases Nat.eq_zero_or_pos k with h0 | h0
 ·subst h0
  have : v = 0 := by simp at hm; omega
  subst this; rw [itx_zero]; decide
 ·obtain ⟨j, hj⟩ : ∃ j, 9 * k = j + 1 := ⟨9 * k - 1, by omega⟩
  rw [hj] at hm
  have := itx_size v j hm; omega
theorem kept_bad {v : Int} (h : chk (itx v) ≠ 0) : kept v = (⟨#[]⟩, chk (itx v)) := by
 rw [chk_itx] at *
 unfold kept
 by_cases h1 : fits v
 ·rw [if_pos h1] at h; exact absurd rfl h
 ·rw [if_neg h1, if_neg h1]
theorem kept_ok {v : Int} (h : chk (itx v) = 0) : kept v = (itx v, 0) := by
 rw [chk_itx] at h
 unfold kept
 by_cases h1 : fits v
 ·rw [if_pos h1]
 ·rw [if_neg h1] at h; cases h
set_option maxRecDepth 100000 in
set_option maxHeartbeats 2000000 in
theorem limited_calls (b : Nat) (s : Bool) (m : Nat) (w : World) (hx : Mg w b s m) (ht : Tabs w) :
  Calls Tryz.prog 96 #[.pointer (some ⟨b, 0, none⟩)] w (KeptPost w (sg s m)) := by
 have htx := text_calls b s m w hx ht
 have hr := itx_room (sg s m) (sg_abs s m) hx.lt (by decide)
 have HX := Lib.hid htx; clear htx hx ht
 generalize sg s m = v at HX hr ⊢
 have hck : ∀ w : World, Calls Tryz.prog 48 #[.string (itx v)] w fun e w' => e = .returned (.int .i64 (chk (itx v))) ∧ Below w.heap.size w w' := check_calls (itx v) hr
 have HCK := Lib.hid hck; clear hck hr
 by_cases hc : chk (itx v) = 0
 ·have hk := kept_ok hc
  have HK := Lib.hid hk; clear hk
  rw [hc] at HCK
  clear hc
  go_enter Tryz.func96, Tryz.ntmps96
  go_wp2_with fail
  refine HX.out.mono ?_
  rintro e w1 ⟨rfl, hb1⟩
  have HB1 := Lib.hid hb1; clear hb1
  go_wp2_with fail
  refine (HCK.out w1).mono ?_
  rintro e w2 ⟨rfl, hb2⟩
  have HB2 := Lib.hid hb2; clear hb2
  go_wp2
  go_ret2
  exact ⟨by rw [HK.out]; rfl, below_then HB1.out HB1.out.size HB2.out⟩
 ·have hk := kept_bad hc
  have HK := Lib.hid hk; clear hk
  generalize hg : chk (itx v) = c at HCK HK hc
  have HG := Lib.hid hg; clear hg
  have hc2 : (c == 0) = false := beq_eq_false_iff_ne.2 hc
  clear hc
  go_enter Tryz.func96, Tryz.ntmps96
  go_wp2_with fail
  refine HX.out.mono ?_
  rintro e w1 ⟨rfl, hb1⟩
  have HB1 := Lib.hid hb1; clear hb1
  go_wp2_with fail
  refine (HCK.out w1).mono ?_
  rintro e w2 ⟨rfl, hb2⟩
  have HB2 := Lib.hid hb2; clear hb2
  go_wp2
  go_ret2
  exact ⟨by rw [HK.out]; rfl, below_then HB1.out HB1.out.size HB2.out⟩
def sumv (l : List ByteArray) : Int := l.foldl (fun v a => v + ival a) 0
theorem sumv_snoc (l : List ByteArray) (a : ByteArray) : sumv (l ++ [a]) = sumv l + ival a := by simp [sumv]
theorem chk_lt {a : ByteArray} (h : chk a = 0) : (ival a).natAbs < 10 ^ lim := (chk_zero h).2
theorem room_sum {m k i : Nat} (hm : m ≤ i * 10 ^ lim) (hk : k < 10 ^ lim) (hi : i ≤ 4096) : m + k < BB ^ 232 := by
 have key : ∀ (t : Nat) (e : Nat), t = 4 → e + t ≤ 9 * 232 → m ≤ i * 10 ^ e → k < 10 ^ e → m + k < BB ^ 232 := by
  intro t e ht he h1 h2
  have h3 : (i + 1) * 10 ^ e ≤ 10 ^ t * 10 ^ e := Nat.mul_le_mul_right _ (by subst ht; omega)
  rw [← Nat.pow_add, Nat.add_comm t e, Nat.add_mul, Nat.one_mul] at h3
  have h4 : m + k < 10 ^ (e + t) := by omega
  exact lt_BB h4 he
 exact key 4 lim rfl (by decide) hm hk
set_option maxRecDepth 100000 in
set_option maxHeartbeats 4000000 in
theorem sum_calls (A0 : Option Addr) (c0 : Nat) (l : List ByteArray) (w : World) (hr0 : Kd.C Kd.string w A0 l.length l) (hc0 : l.length ≤ c0) (hall : ∀ a ∈ l, chk a = 0) (hn : l.length ≤ 4096) (ht : Tabs w) :
  Calls Tryz.prog 116 #[.slice A0 l.length c0] w (KeptPost w (sumv l)) := by
 have HR0 := Lib.hid hr0; clear hr0
 have HC0 := Lib.hid hc0; clear hc0
 have HT := Lib.hid ht; clear ht
 have HALL := Lib.hid hall; clear hall
 go_enter Tryz.func116, Tryz.ntmps116
 go_wp2
 have hf : Mg (w.alloc (Obj.cells Tryz.zeroCells119 119)) w.heap.size false 0 := Mg.fresh0 w
 have hb1 : Below w.heap.size w (w.alloc (Obj.cells Tryz.zeroCells119 119)) := (Below.refl _ _).alloc (Nat.le_refl _) _
 generalize w.alloc (Obj.cells Tryz.zeroCells119 119) = w1 at hf hb1 ⊢
 have HF := Lib.hid hf; clear hf
 have HB1 := Lib.hid hb1; clear hb1
 go_loopg [11] l.length (fun g v wr => ∃ i : Nat, v = .int .i64 (i : Int) ∧ g + i = l.length ∧ Hid (∃ s m, Mg wr w.heap.size s m ∧ sg s m = sumv (l.take i) ∧ m ≤ i * 10 ^ lim) ∧ Hid (Below w.heap.size w wr))
 case atStart => exact ⟨0, rfl, by omega, Lib.hid ⟨false, 0, HF.out, rfl, Nat.zero_le _⟩, HB1⟩
 case round =>
  obtain ⟨i, rfl, hg, HI, HB⟩ := hrel
  obtain ⟨s, m, hx, hsv, hm⟩ := HI.out
  have HX := Lib.hid hx; clear hx
  have HSV := Lib.hid hsv; clear hsv
  have HM := Lib.hid hm; clear hm
  rcases Nat.eq_zero_or_pos gk with h0 | h0
  ·have hil : (i : Int) = (l.length : Int) := by omega
   have HL : Hid (l.take i = l) := Lib.hid (List.take_of_length_le (by omega))
   go_wp2_with fail
   refine (limited_calls w.heap.size s m wr HX.out (HT.out.below HB.out)).mono ?_
   rintro e w3 ⟨rfl, hb3⟩
   have HB3 := Lib.hid hb3; clear hb3
   go_wp2
   go_ret2
   have e1 := HSV.out
   rw [HL.out] at e1
   exact ⟨by rw [e1]; rfl, below_then HB.out HB.out.size HB3.out⟩
  ·have hil : i < l.length := by omega
   have hil2 : (i : Int) < (l.length : Int) := by omega
   have hi0 : 0 ≤ (i : Int) := by omega
   have hck : chk (rdOf ByteArray.empty l i) = 0 := by
    have e1 : rdOf ByteArray.empty l (i : Int) = l[i] := by simp [rdOf, List.getD, List.getElem?_eq_getElem hil]
    rw [e1]; exact HALL.out _ (List.getElem_mem hil)
   have hsum : sumv (l.take (i + 1)) = sumv (l.take i) + ival (rdOf ByteArray.empty l i) := by
    have e1 : rdOf ByteArray.empty l (i : Int) = l[i] := by simp [rdOf, List.getD, List.getElem?_eq_getElem hil]
    rw [e1, ← sumv_snoc, List.take_append_getElem hil]
   have HSUM := Lib.hid hsum; clear hsum
   have HCK := Lib.hid hck; clear hck
   obtain ⟨ad, ead, hxa⟩ := Kd.at_string HR0.out (i : Int) hi0 hil2
   cases ead
   replace hxa := (HB.out.cell (World.block_lt_of_cell? w _ hxa)).trans hxa
   rw [Int.toNat_natCast] at hxa
   generalize rdOf ByteArray.empty l (i : Int) = a at HSUM HCK hxa
   have hi0' := eq_true hi0
   have hil2' := eq_true hil2
   go_wp2_with fail
   refine (read_calls a HCK.out wr).mono ?_
   rintro e w4 ⟨rfl, hm4, hb4⟩
   have HM4 := Lib.hid hm4; clear hm4
   have HB4 := Lib.hid hb4; clear hb4
   have hbs := HB.out.size
   have hlt := HX.out.blt
   go_wp2_with fail
   refine (plus_calls w.heap.size wr.heap.size s (decide (ival a < 0)) m (ival a).natAbs w4 (HX.out.below HB4.out) HM4.out (by omega) (room_sum HM.out (chk_lt HCK.out) (by omega))).mono ?_
   rintro e w5 ⟨rfl, hm5, hb5⟩
   have HM5 := Lib.hid hm5; clear hm5
   have HB5 := Lib.hid hb5; clear hb5
   go_wp2
   obtain ⟨g', rfl⟩ : ∃ g', gk = g' + 1 := ⟨gk - 1, by omega⟩
   go_roundg g'
   case measure => omega
   case rel => exact ⟨i + 1, by go_num, by omega, Lib.hid (by
     obtain ⟨s', m', h1, h2⟩ := HM5.out
     have e3 : sg (decide (ival a < 0)) (ival a).natAbs = ival a := by unfold sg; by_cases h : ival a < 0 <;> simp [h] <;> omega
     refine ⟨s', m', h1, by rw [h2, HSUM.out, ← HSV.out, e3], ?_⟩
     have e4 := congrArg Int.natAbs h2
     rw [sg_abs, e3] at e4
     have e5 := chk_lt HCK.out
     have e6 := HM.out
     have e7 : (sg s m).natAbs = m := sg_abs s m
     rw [Nat.add_mul, Nat.one_mul]
     omega), Lib.hid (below_gby (below_then HB.out HB.out.size HB4.out) (Nat.le_refl _) (by have := HB4.out.size; omega) HB5.out)⟩
end Go.Proofs.YtkdpcgmnkifbbaaGreatDoor
end
section
namespace Go.Proofs.YtkdpcgmnkifbbaaGreatDoor
open Go.RowKit Go.Proofs.YtkdpcgmnkifbbaaGreatDoorW.PrintWords Go.Proofs.YtkdpcgmnkifbbaaGreatDoorW.PrintMore
def two (a b : ByteArray) (r : ByteArray × Int) : ByteArray × Int := if chk a ≠ 0 then (⟨#[]⟩, chk a) else if chk b ≠ 0 then (⟨#[]⟩, chk b) else r
def TwoPost (w : World) (r : ByteArray × Int) (e : Ending) (w' : World) : Prop := e = .returned (.tuple #[.string r.1, .int .i64 r.2]) ∧ Below w.heap.size w w'
theorem two_bad {a b : ByteArray} {r : ByteArray × Int} (h : chks [a, b] ≠ 0) : two a b r = (⟨#[]⟩, chks [a, b]) := by
 unfold two
 unfold chks chks chks at *
 by_cases h1 : chk a = 0
 ·rw [if_pos h1] at h ⊢
  by_cases h2 : chk b = 0
  ·rw [if_pos h2] at h; exact absurd rfl h
  ·rw [if_neg h2] at h ⊢
   rw [if_neg (fun h => h h1), if_pos h2]
 ·rw [if_neg h1] at h ⊢
  rw [if_pos h1]
theorem chks_two {a b : ByteArray} (h : chks [a, b] = 0) : chk a = 0 ∧ chk b = 0 := by
 unfold chks chks chks at h
 by_cases h1 : chk a = 0
 ·rw [if_pos h1] at h
  by_cases h2 : chk b = 0
  ·exact ⟨h1, h2⟩
  ·rw [if_neg h2] at h; exact absurd h h2
 ·rw [if_neg h1] at h; exact absurd h h1
theorem two_ok {a b : ByteArray} {r : ByteArray × Int} (h : chks [a, b] = 0) : two a b r = r := by
 obtain ⟨h1, h2⟩ := chks_two h
 unfold two
 rw [if_neg (fun h => h h1), if_neg (fun h => h h2)]
theorem all_two (a b : ByteArray) (ha : a.size ≤ 9223372036854775807) (hb : b.size ≤ 9223372036854775807) : C.whole_all.f 5 [a, b] = some (chks [a, b]) :=
 all_f [a, b] (by intro x hx; simp at hx; rcases hx with rfl | rfl <;> assumption) (by simp) 5 (by simp)
theorem short_lt {a : ByteArray} (h : chk a = 0) (h9 : a.size ≤ 9) : -1000000000 < ival a ∧ ival a < 1000000000 := by
 have h1 := form_ival a (chk_form h)
 have h2 := dnat_lt (form_all (chk_form h)).1
 have h3 := digs_len a.data.toList
 rw [← Lib.size_eq] at h3
 have h4 : 10 ^ (digs a.data.toList).length ≤ 10 ^ 9 := Nat.pow_le_pow_right (by decide) (by omega)
 omega
theorem fits_small {v : Int} (h : v.natAbs < 10 ^ 19) : fits v := Nat.lt_of_lt_of_le h (Nat.pow_le_pow_right (by decide) (by decide))
theorem result_f (v : Int) (h0 : -9223372036854775808 ≤ v) (h1 : v ≤ 9223372036854775807) : C.whole_result.f v = some ((kept v).1, (kept v).2) := by
 rw [kept_fits (fits_small (by omega))]
 unfold C.whole_result.f C.whole_Of.f C.strconv_Itoa.f
 rw [if_pos ⟨h0, h1⟩]; rfl
theorem nw_digits {a : ByteArray} (h : chk a = 0) : nw (ival a).natAbs ≤ 114 := by
 have key : ∀ e, e ≤ 9 * 114 → (ival a).natAbs < 10 ^ e → nw (ival a).natAbs ≤ 114 := fun e h1 h2 => nw_le (lt_BB h2 h1)
 exact key lim (by decide) (chk_lt h)
theorem mul_room {a b : ByteArray} (h : chk a = 0) (h2 : chk b = 0) : (ival a).natAbs * (ival b).natAbs < BB ^ 232 := by
 have key : ∀ e, e + e ≤ 9 * 232 → (ival a).natAbs < 10 ^ e → (ival b).natAbs < 10 ^ e → (ival a).natAbs * (ival b).natAbs < BB ^ 232 := by
  intro e he h1 h2
  refine lt_BB (L := e + e) ?_ he
  rw [Nat.pow_add]
  exact Nat.mul_lt_mul'' h1 h2
 exact key lim (by decide) (chk_lt h) (chk_lt h2)
theorem sg_mul (u v : Int) : sg (decide (u < 0) != decide (v < 0)) (u.natAbs * v.natAbs) = u * v := by
 have e1 : ∀ x : Int, x = if x < 0 then -(x.natAbs : Int) else (x.natAbs : Int) := fun x => by split <;> omega
 rw [show u * v = (if u < 0 then -(u.natAbs : Int) else (u.natAbs : Int)) * (if v < 0 then -(v.natAbs : Int) else (v.natAbs : Int)) by rw [← e1 u, ← e1 v]]
 unfold sg
 by_cases h1 : u < 0 <;> by_cases h2 : v < 0 <;> simp [h1, h2, Int.neg_mul, Int.mul_neg]
set_option maxRecDepth 100000 in
set_option maxHeartbeats 4000000 in
theorem mul_calls (a b : ByteArray) (ha : a.size ≤ 9223372036854775807) (hb : b.size ≤ 9223372036854775807) (w : World) (ht : Tabs w) :
  Calls Tryz.prog 78 #[.string a, .string b] w (TwoPost w (two a b (kept (ival a * ival b)))) := by
 have hall := all_two a b ha hb
 have HT := Lib.hid ht; clear ht
 have HAL := Lib.hid hall; clear hall ha hb
 obtain ⟨y, hy⟩ : ∃ y : List ByteArray, y = [a, b] := ⟨_, rfl⟩
 have Ny := Lib.hid hy
 rw [← hy] at HAL
 by_cases hc : chks [a, b] = 0
 ·rw [← hy] at hc
  rw [hc] at HAL
  rw [hy] at hc
  clear hy
  obtain ⟨h1, h2⟩ := chks_two hc
  have htwo := two_ok (r := kept (ival a * ival b)) hc
  rw [htwo]
  clear hc htwo
  have H1 := Lib.hid h1; clear h1
  have H2 := Lib.hid h2; clear h2
  by_cases h9 : a.size ≤ 9 ∧ b.size ≤ 9
  ·have hs : smallF a b = (ival a, ival b, true) := if_pos h9
   have HS := Lib.hid hs; clear hs
   have hm := short_lt H1.out h9.1
   have hn := short_lt H2.out h9.2
   generalize ival a = m at HS hm ⊢
   generalize ival b = n at HS hn ⊢
   clear h9
   have hp : -9223372036854775808 ≤ m * n ∧ m * n ≤ 9223372036854775807 := by
    have h3 : (m * n).natAbs ≤ 1000000000 * 1000000000 := by rw [Int.natAbs_mul]; exact Nat.mul_le_mul (by omega) (by omega)
    omega
   have hwi : IntKind.i64.wrap (m * n) = m * n := by
    have hw : wrap64 (m * n) = m * n := IntWalk.wrap64_in _ hp
    unfold wrap64 at hw
    rw [IntKind.wrap_i64]; exact hw
   have HRF := Lib.hid (result_f (m * n) hp.1 hp.2)
   clear hp hm hn
   go_enter Tryz.func78, Tryz.ntmps78
   go_wp2_with (first | ((with_reducible refine gate_dst (N := 12) rfl ?_); refine Kd.R_lit Kd.string _ 39 ?hg (N := 12) ?hd (xs := ([a, b] : List ByteArray)) (inner := [.string a, .string b]) (ok := fun _ => True) (okp := fun _ => True) ?hr ?hp (fun _ hk => hk) trivial (Below.refl _ _) (Nat.le_refl _) (by simp) ?_; (case hd => rfl); (case hg => rfl); (case hr => first | (go_simp; done) | (go_simp; rfl)); (case hp => exact (Reps.one (show Kd.M Kd.string _ _ _ a [.string a] from rfl) (Reps.one (show Kd.M Kd.string _ _ _ b [.string b] from rfl) (Reps.none _ _)))); intro v1 w1 ho hb1 hg_ hnew_; clear hg_ hnew_; rw [← Ny.out] at ho; have HO := Lib.hid ho; clear ho; have HB1 := Lib.hid hb1; clear hb1; obtain ⟨Ao, co, eo⟩ := Kd.R_slice HO.out; subst eo))
   refine (C.whole_all.calls 5 Ao co y 0 w1 (Kd.R_reads' HO.out).2.2 (Kd.R_reads' HO.out).2.1 HAL.out).mono ?_
   rintro e w2 ⟨rfl, hb2⟩
   have HB2 := Lib.hid (below_then HB1.out HB1.out.size hb2); clear hb2 HO
   go_wp2_with fail
   refine (small_calls a b w2 H1.out H2.out).mono ?_
   rintro e w3 ⟨rfl, hb3⟩
   have HB3 := Lib.hid (below_then HB2.out HB2.out.size hb3); clear hb3
   rw [HS.out]
   go_wp2_with fail
   refine (C.whole_result.calls (m * n) _ _ w3 HRF.out (Aside0.mk (HT.out.below HB3.out))).mono ?_
   rintro e w4 ⟨rfl, hb4⟩
   have HB4 := Lib.hid (below_then HB3.out HB3.out.size hb4); clear hb4
   go_wp2
   go_ret2
   exact ⟨rfl, HB4.out⟩
  ·have hs : smallF a b = (0, 0, false) := if_neg h9
   have HS := Lib.hid hs; clear hs
   clear h9
   go_enter Tryz.func78, Tryz.ntmps78
   go_wp2_with (first | ((with_reducible refine gate_dst (N := 12) rfl ?_); refine Kd.R_lit Kd.string _ 39 ?hg (N := 12) ?hd (xs := ([a, b] : List ByteArray)) (inner := [.string a, .string b]) (ok := fun _ => True) (okp := fun _ => True) ?hr ?hp (fun _ hk => hk) trivial (Below.refl _ _) (Nat.le_refl _) (by simp) ?_; (case hd => rfl); (case hg => rfl); (case hr => first | (go_simp; done) | (go_simp; rfl)); (case hp => exact (Reps.one (show Kd.M Kd.string _ _ _ a [.string a] from rfl) (Reps.one (show Kd.M Kd.string _ _ _ b [.string b] from rfl) (Reps.none _ _)))); intro v1 w1 ho hb1 hg_ hnew_; clear hg_ hnew_; rw [← Ny.out] at ho; have HO := Lib.hid ho; clear ho; have HB1 := Lib.hid hb1; clear hb1; obtain ⟨Ao, co, eo⟩ := Kd.R_slice HO.out; subst eo))
   refine (C.whole_all.calls 5 Ao co y 0 w1 (Kd.R_reads' HO.out).2.2 (Kd.R_reads' HO.out).2.1 HAL.out).mono ?_
   rintro e w2 ⟨rfl, hb2⟩
   have HB2 := Lib.hid (below_then HB1.out HB1.out.size hb2); clear hb2 HO
   go_wp2_with fail
   refine (small_calls a b w2 H1.out H2.out).mono ?_
   rintro e w3 ⟨rfl, hb3⟩
   have HB3 := Lib.hid (below_then HB2.out HB2.out.size hb3); clear hb3
   rw [HS.out]
   go_wp2_with fail
   refine (read_calls a H1.out w3).mono ?_
   rintro e w4 ⟨rfl, hm4, hb4⟩
   have HM4 := Lib.hid hm4; clear hm4
   have HB4 := Lib.hid hb4; clear hb4
   go_wp2_with fail
   refine (read_calls b H2.out w4).mono ?_
   rintro e w5 ⟨rfl, hm5, hb5⟩
   have HM5 := Lib.hid hm5; clear hm5
   have HB5 := Lib.hid hb5; clear hb5
   go_wp2_with fail
   refine (times_calls w3.heap.size w4.heap.size _ _ _ _ w5 (HM4.out.below HB5.out) HM5.out (mul_room H1.out H2.out) (by have := nw_digits H1.out; have := nw_digits H2.out; omega)).mono ?_
   rintro e w6 ⟨g, rfl, hg, hm6, hb6⟩
   have HM6 := Lib.hid hm6; clear hm6
   have HB6 := Lib.hid (below_then (below_then (below_then HB3.out HB3.out.size HB4.out) (Nat.le_trans HB3.out.size HB4.out.size) HB5.out) (Nat.le_trans HB3.out.size (Nat.le_trans HB4.out.size HB5.out.size)) hb6); clear hb6
   go_wp2_with fail
   refine (limited_calls g _ _ w6 HM6.out (HT.out.below HB6.out)).mono ?_
   rintro e w7 ⟨rfl, hb7⟩
   have HB7 := Lib.hid hb7; clear hb7
   go_wp2
   go_ret2
   exact ⟨by rw [sg_mul]; rfl, below_then HB6.out HB6.out.size HB7.out⟩
 ·have htwo := two_bad (r := kept (ival a * ival b)) hc
  rw [htwo]
  rw [show chks y = chks [a, b] by rw [hy]] at HAL
  generalize chks [a, b] = c at HAL hc ⊢
  clear hy htwo
  have hc2 : (c == 0) = false := beq_eq_false_iff_ne.2 hc
  clear hc
  go_enter Tryz.func78, Tryz.ntmps78
  go_wp2_with (first | ((with_reducible refine gate_dst (N := 12) rfl ?_); refine Kd.R_lit Kd.string _ 39 ?hg (N := 12) ?hd (xs := ([a, b] : List ByteArray)) (inner := [.string a, .string b]) (ok := fun _ => True) (okp := fun _ => True) ?hr ?hp (fun _ hk => hk) trivial (Below.refl _ _) (Nat.le_refl _) (by simp) ?_; (case hd => rfl); (case hg => rfl); (case hr => first | (go_simp; done) | (go_simp; rfl)); (case hp => exact (Reps.one (show Kd.M Kd.string _ _ _ a [.string a] from rfl) (Reps.one (show Kd.M Kd.string _ _ _ b [.string b] from rfl) (Reps.none _ _)))); intro v1 w1 ho hb1 hg_ hnew_; clear hg_ hnew_; rw [← Ny.out] at ho; have HO := Lib.hid ho; clear ho; have HB1 := Lib.hid hb1; clear hb1; obtain ⟨Ao, co, eo⟩ := Kd.R_slice HO.out; subst eo))
  refine (C.whole_all.calls 5 Ao co y c w1 (Kd.R_reads' HO.out).2.2 (Kd.R_reads' HO.out).2.1 HAL.out).mono ?_
  rintro e w2 ⟨rfl, hb2⟩
  have HB2 := Lib.hid (below_then HB1.out HB1.out.size hb2); clear hb2 HO
  go_wp2
  go_ret2
  exact ⟨rfl, HB2.out⟩
end Go.Proofs.YtkdpcgmnkifbbaaGreatDoor
end
section
namespace Go.Proofs.YtkdpcgmnkifbbaaGreatDoor
open Go.RowKit Go.Proofs.YtkdpcgmnkifbbaaGreatDoorW.PrintWords Go.Proofs.YtkdpcgmnkifbbaaGreatDoorW.PrintMore
theorem fdm_of {a b q r : Int} (hb : b ≠ 0) (h : r + b * q = a) (h1 : 0 < b → 0 ≤ r ∧ r < b) (h2 : b < 0 → b < r ∧ r ≤ 0) : a.fdiv b = q ∧ a.fmod b = r := by
 rcases Int.lt_or_gt_of_ne hb with hn | hp
 ·exact (Int.fdiv_fmod_unique' hn).2 ⟨h, (h2 hn).1, (h2 hn).2⟩
 ·exact (Int.fdiv_fmod_unique hp).2 ⟨h, (h1 hp).1, (h1 hp).2⟩
theorem sg_val (v : Int) : sg (decide (v < 0)) v.natAbs = v := by unfold sg; by_cases h : v < 0 <;> simp [h] <;> omega
theorem part_plain' (m k : Nat) (su sv : Bool) (hk : 0 < k) (h : m % k = 0 ∨ su = sv) :
  (sg su m).fdiv (sg sv k) = sg (su != sv) (m / k) ∧ (sg su m).fmod (sg sv k) = sg su (m % k) := by
 have h1 := Nat.div_add_mod m k
 have h2 := Nat.mod_lt m hk
 generalize m / k = q at *
 generalize m % k = r at *
 have hm : (m : Int) = (k : Int) * q + r := by rw [← h1]; push_cast; rfl
 cases su <;> cases sv <;> simp [sg] at h ⊢ <;> refine fdm_of (by omega) ?_ (by omega) (by omega) <;> (try simp only [Int.neg_mul, Int.mul_neg]) <;> omega
theorem part_turn' (m k : Nat) (su sv : Bool) (hk : 0 < k) (h : 0 < m % k) (hs : su ≠ sv) :
  (sg su m).fdiv (sg sv k) = sg true (m / k) + sg true 1 ∧ (sg su m).fmod (sg sv k) = sg su (m % k) + sg sv k := by
 have h1 := Nat.div_add_mod m k
 have h2 := Nat.mod_lt m hk
 generalize m / k = q at *
 generalize m % k = r at *
 have hm : (m : Int) = (k : Int) * q + r := by rw [← h1]; push_cast; rfl
 cases su <;> cases sv <;> simp [sg] at hs ⊢ <;> refine fdm_of (by omega) ?_ (by omega) (by omega) <;> simp only [Int.neg_mul, Int.mul_neg, Int.mul_add] <;> omega
theorem part_small {m n : Int} (hn : n ≠ 0) : (¬ ((m.tmod n != 0) && ((decide (m.tmod n < 0)) != (decide (n < 0)))) = true → m.fdiv n = m.tdiv n ∧ m.fmod n = m.tmod n) ∧ (((m.tmod n != 0) && ((decide (m.tmod n < 0)) != (decide (n < 0)))) = true → m.fdiv n = m.tdiv n - 1 ∧ m.fmod n = m.tmod n + n) := by
 have h1 := Int.mul_tdiv_add_tmod m n
 have h2 : (m.tmod n).natAbs < n.natAbs := by rw [Int.natAbs_tmod]; exact Nat.mod_lt _ (by omega)
 generalize m.tdiv n = q at *
 generalize m.tmod n = r at *
 refine ⟨fun h => ?_, fun h => ?_⟩
 ·simp at h
  refine fdm_of hn (by omega) ?_ ?_ <;> intro hp <;> (by_cases hr : r = 0 <;> first | omega | (have := h hr; omega))
 ·simp at h
  refine fdm_of hn (by rw [Int.mul_sub, Int.mul_one]; omega) ?_ ?_ <;> intro hp <;> omega
theorem Mg.setless {w : World} {b m : Nat} {s : Bool} (h : Mg w b s m) (t : Bool) : Mg (w.setCell ⟨b, 0, none⟩ (.bool t)) b t m :=
 ⟨h.lt, ⟨by rw [heap_setCell_same _ _ _ _ _ _ h.at_.heap]; simp [wcells], h.at_.len⟩⟩
theorem Mg.drew {w : World} {b m : Nat} {s : Bool} (h : Mg w b s m) : Mg w.drew b s m := ⟨h.lt, h.at_.drew⟩
theorem one_mg (w : World) : Mg ((w.alloc (.cells ((Tryz.zeroCells119.setIfInBounds 0 (.bool true)).setIfInBounds 1 (.int .i64 1)) 119)).setCell ⟨w.heap.size, 2, none⟩ (.int .i64 1)) w.heap.size true 1 := by
 have h1 : Wd (w.alloc (.cells ((Tryz.zeroCells119.setIfInBounds 0 (.bool true)).setIfInBounds 1 (.int .i64 1)) 119)) w.heap.size true 1 (wds 0) := by
  refine ⟨?_, wds_len 0⟩
  rw [show (w.alloc (.cells ((Tryz.zeroCells119.setIfInBounds 0 (.bool true)).setIfInBounds 1 (.int .i64 1)) 119)).heap = w.heap.push (.cells ((Tryz.zeroCells119.setIfInBounds 0 (.bool true)).setIfInBounds 1 (.int .i64 1)) 119) from rfl, Array.getElem?_push_size, zeroWide]
  simp [wcells]
 have h2 := h1.setw 0 1
 have e1 : nw 1 = 1 := by
  have h3 : nw 1 ≤ 1 := nw_le (lt_BB (m := 1) (L := 1) (k := 1) (by decide) (by decide))
  have h4 := nw_succ (show (1 : Nat) ≠ 0 by decide)
  omega
 have e : (wds 0).set 0 1 = wds 1 := by
  refine wds_ext (by rw [List.length_set, wds_len]) 1 (fun j hj => ?_)
  have h0 : ∀ j, wd 0 j = 0 := fun j => wd_zero_of_ge (by rw [nw_zero]; omega)
  rcases Nat.eq_zero_or_pos j with h | h
  ·subst h
   rw [show wd 1 0 = 1 by unfold wd; rw [Nat.pow_zero, Nat.div_one]; exact Nat.mod_eq_of_lt (by decide)]
   simp [List.getD, List.getElem?_set, wds_len]
  ·rw [wd_zero_of_ge (by omega)]
   have h5 := wds_get 0 j hj
   rw [h0 j] at h5
   simp only [List.getD, List.getElem?_set] at h5 ⊢
   rw [if_neg (by omega)]; exact h5
 rw [e] at h2
 refine ⟨?_, by rw [e1]; exact h2⟩
 exact lt_BB (L := 1) (by decide) (by decide)
theorem one_lim : 1 < 10 ^ lim := Nat.one_lt_pow (by decide) (by decide)
theorem one_cells (w : World) : (w.alloc (.cells ((Tryz.zeroCells119.setIfInBounds 0 (.bool true)).setIfInBounds 1 (.int .i64 1)) 119)).cell? ⟨w.heap.size, 2, none⟩ = some (.int .i64 0) ∧ (w.alloc (.cells ((Tryz.zeroCells119.setIfInBounds 0 (.bool true)).setIfInBounds 1 (.int .i64 1)) 119)).frozen? ⟨w.heap.size, 2, none⟩ = false := by
 have h1 : Wd (w.alloc (.cells ((Tryz.zeroCells119.setIfInBounds 0 (.bool true)).setIfInBounds 1 (.int .i64 1)) 119)) w.heap.size true 1 (wds 0) := by
  refine ⟨?_, wds_len 0⟩
  rw [show (w.alloc (.cells ((Tryz.zeroCells119.setIfInBounds 0 (.bool true)).setIfInBounds 1 (.int .i64 1)) 119)).heap = w.heap.push (.cells ((Tryz.zeroCells119.setIfInBounds 0 (.bool true)).setIfInBounds 1 (.int .i64 1)) 119) from rfl, Array.getElem?_push_size, zeroWide]
  simp [wcells]
 refine ⟨?_, h1.fz 2⟩
 have h2 := h1.cw 0 (by decide)
 rw [wds_get 0 0 (by decide), wd_zero_of_ge (by rw [nw_zero]; omega)] at h2
 exact h2
theorem one_mg' (w : World) {k : Nat} (hk : k = w.heap.size) : Mg (w.alloc (.cells (((Tryz.zeroCells119.setIfInBounds 0 (.bool true)).setIfInBounds 1 (.int .i64 1)).setIfInBounds 2 (.int .i64 1)) 119)) k true 1 := by
 subst hk
 have h := one_mg w
 have e : ((w.alloc (.cells ((Tryz.zeroCells119.setIfInBounds 0 (.bool true)).setIfInBounds 1 (.int .i64 1)) 119)).setCell ⟨w.heap.size, 2, none⟩ (.int .i64 1)).heap[w.heap.size]? = (w.alloc (.cells (((Tryz.zeroCells119.setIfInBounds 0 (.bool true)).setIfInBounds 1 (.int .i64 1)).setIfInBounds 2 (.int .i64 1)) 119)).heap[w.heap.size]? := by
  rw [heap_setCell_same _ _ _ _ _ _ (heap_alloc_last w _)]
  rw [show (w.alloc (.cells (((Tryz.zeroCells119.setIfInBounds 0 (.bool true)).setIfInBounds 1 (.int .i64 1)).setIfInBounds 2 (.int .i64 1)) 119)).heap = w.heap.push _ from rfl, Array.getElem?_push_size]
 exact ⟨h.lt, ⟨e.symm.trans h.at_.heap, h.at_.len⟩⟩
theorem size_setCell (w : World) (b j : Nat) (v : Value) : (w.setCell ⟨b, j, none⟩ v).heap.size = w.heap.size := by simp [World.setCell]
def partF (a b : ByteArray) : ByteArray × ByteArray × Int := if chks [a, b] ≠ 0 then (⟨#[]⟩, ⟨#[]⟩, chks [a, b]) else if ival b = 0 then (⟨#[]⟩, ⟨#[]⟩, 10) else (itx ((ival a).fdiv (ival b)), itx ((ival a).fmod (ival b)), 0)
def PartPost (w : World) (r : ByteArray × ByteArray × Int) (e : Ending) (w' : World) : Prop := e = .returned (.tuple #[.string r.1, .string r.2.1, .int .i64 r.2.2]) ∧ Below w.heap.size w w'
theorem of_f (v : Int) (h0 : -9223372036854775808 ≤ v) (h1 : v ≤ 9223372036854775807) : C.whole_Of.f v = some (itx v) := by
 unfold C.whole_Of.f C.strconv_Itoa.f
 rw [if_pos ⟨h0, h1⟩]; rfl
theorem zero_text {b : ByteArray} (h : chk b = 0) : (b.toList == ([48] : List UInt8)) = decide (ival b = 0) := by
 have h1 := (chk_zero h).1
 rw [Bool.eq_iff_iff, beq_iff_eq, decide_eq_true_iff]
 constructor
 ·intro h2
  have h3 : b = itx 0 := by
   rw [itx_zero, ← Lib.mk_data b, ← Lib.toList_data, h2]
  rw [h3, ival_itx]
 ·intro h2
  rw [h1, h2, itx_zero, Lib.toList_data]
theorem tdiv_small {m n : Int} (hm : -1000000000 < m ∧ m < 1000000000) : -1000000000 < m.tdiv n ∧ m.tdiv n < 1000000000 := by
 have h1 : (m.tdiv n).natAbs ≤ m.natAbs := by rw [Int.natAbs_tdiv]; exact Nat.div_le_self _ _
 omega
theorem tmod_small {m n : Int} (hm : -1000000000 < m ∧ m < 1000000000) : -1000000000 < m.tmod n ∧ m.tmod n < 1000000000 := by
 have h1 : (m.tmod n).natAbs ≤ m.natAbs := by rw [Int.natAbs_tmod]; exact Nat.mod_le _ _
 omega
set_option maxRecDepth 100000 in
set_option maxHeartbeats 8000000 in
theorem parted_small (a b : ByteArray) (w : World) (h1 : chk a = 0) (h2 : chk b = 0) (hnz : ival b ≠ 0) (h9 : a.size ≤ 9 ∧ b.size ≤ 9) (hall : C.whole_all.f 5 [a, b] = some 0) (ht : Tabs w) :
  Calls Tryz.prog 103 #[.string a, .string b] w (PartPost w (itx ((ival a).fdiv (ival b)), itx ((ival a).fmod (ival b)), 0)) := by
 have HT := Lib.hid ht; clear ht
 obtain ⟨y, hy⟩ : ∃ y : List ByteArray, y = [a, b] := ⟨_, rfl⟩
 have Ny := Lib.hid hy
 rw [← hy] at hall
 have HAL := Lib.hid hall; clear hall hy
 have hb0 := zero_text h2
 rw [decide_eq_false hnz] at hb0
 have H1 := Lib.hid h1; clear h1
 have H2 := Lib.hid h2; clear h2
 have hs : smallF a b = (ival a, ival b, true) := if_pos h9
 have HS := Lib.hid hs; clear hs
 have hm := short_lt H1.out h9.1
 have hn := short_lt H2.out h9.2
 generalize ival a = m at HS hm ⊢
 generalize ival b = n at HS hn hnz ⊢
 clear h9
 have hps := part_small (m := m) hnz
 have hq := tdiv_small (n := n) hm
 have hr := tmod_small (n := n) hm
 have HPS := Lib.hid hps; clear hps
 have hnb : (n == 0) = false := beq_eq_false_iff_ne.2 hnz
 have hwq : IntKind.i64.wrap (m.tdiv n) = m.tdiv n := by rw [IntKind.wrap_i64]; omega
 clear hm
 go_enter Tryz.func103, Tryz.ntmps103
 go_wp2_with (first | ((with_reducible refine gate_dst (N := 20) rfl ?_); refine Kd.R_lit Kd.string _ 39 ?hg (N := 20) ?hd (xs := ([a, b] : List ByteArray)) (inner := [.string a, .string b]) (ok := fun _ => True) (okp := fun _ => True) ?hr ?hp (fun _ hk => hk) trivial (Below.refl _ _) (Nat.le_refl _) (by simp) ?_; (case hd => rfl); (case hg => rfl); (case hr => first | (go_simp; done) | (go_simp; rfl)); (case hp => exact (Reps.one (show Kd.M Kd.string _ _ _ a [.string a] from rfl) (Reps.one (show Kd.M Kd.string _ _ _ b [.string b] from rfl) (Reps.none _ _)))); intro v1 w1 ho hb1 hg_ hnew_; clear hg_ hnew_; rw [← Ny.out] at ho; have HO := Lib.hid ho; clear ho; have HB1 := Lib.hid hb1; clear hb1; obtain ⟨Ao, co, eo⟩ := Kd.R_slice HO.out; subst eo))
 refine (C.whole_all.calls 5 Ao co y 0 w1 (Kd.R_reads' HO.out).2.2 (Kd.R_reads' HO.out).2.1 HAL.out).mono ?_
 rintro e w2 ⟨rfl, hb2⟩
 have HB2 := Lib.hid (below_then HB1.out HB1.out.size hb2); clear hb2 HO
 go_wp2_with fail
 refine (small_calls a b w2 H1.out H2.out).mono ?_
 rintro e w3 ⟨rfl, hb3⟩
 have HB3 := Lib.hid (below_then HB2.out HB2.out.size hb3); clear hb3
 rw [HS.out]
 go_wp2_with fail
 go_region
 clear hnz hnb
 generalize m.tdiv n = q at HPS hq ⊢
 generalize m.tmod n = r at HPS hr ⊢
 clear hwq
 by_cases hr0 : r = 0
 ·have hr1 : (r == 0) = true := beq_iff_eq.2 hr0
  have hr2 : (r != 0) = false := by rw [bne, hr1]; rfl
  obtain ⟨e1, e2⟩ := HPS.out.1 (by rw [hr2]; simp)
  clear hr0
  have HOQ := Lib.hid (of_f q (by omega) (by omega))
  have HOR := Lib.hid (of_f r (by omega) (by omega))
  have E1 := Lib.hid e1; clear e1
  have E2 := Lib.hid e2; clear e2
  clear hq hr hn
  go_wp2_with fail
  refine (C.whole_Of.calls q (itx q) w3.drew HOQ.out (Aside0.mk (HT.out.below (Below.drew HB3.out)))).mono ?_
  rintro e w4 ⟨rfl, hb4⟩
  have HB4 := Lib.hid (below_then (Below.drew HB3.out) (Below.drew HB3.out).size hb4); clear hb4
  go_wp2_with fail
  refine (C.whole_Of.calls r (itx r) w4 HOR.out (Aside0.mk (HT.out.below HB4.out))).mono ?_
  rintro e w5 ⟨rfl, hb5⟩
  have HB5 := Lib.hid (below_then HB4.out HB4.out.size hb5); clear hb5
  go_wp2
  go_ret3
  exact ⟨by rw [E1.out, E2.out]; rfl, HB5.out⟩
 ·have hr1 : (r == 0) = false := beq_eq_false_iff_ne.2 hr0
  have hr2 : (r != 0) = true := by rw [bne, hr1]; rfl
  clear hr0
  by_cases hsg : decide (r < 0) = decide (n < 0)
  ·have hsg2 : (decide (r < 0) != decide (n < 0)) = false := by rw [hsg]; simp
   have hsg3 : (decide (r < 0) == decide (n < 0)) = true := by rw [hsg]; simp
   obtain ⟨e1, e2⟩ := HPS.out.1 (by rw [hsg2]; simp)
   clear hsg
   have HOQ := Lib.hid (of_f q (by omega) (by omega))
   have HOR := Lib.hid (of_f r (by omega) (by omega))
   have E1 := Lib.hid e1; clear e1
   have E2 := Lib.hid e2; clear e2
   clear hq hr hn
   go_wp2_with fail
   refine (C.whole_Of.calls q (itx q) w3.drew HOQ.out (Aside0.mk (HT.out.below (Below.drew HB3.out)))).mono ?_
   rintro e w4 ⟨rfl, hb4⟩
   have HB4 := Lib.hid (below_then (Below.drew HB3.out) (Below.drew HB3.out).size hb4); clear hb4
   go_wp2_with fail
   refine (C.whole_Of.calls r (itx r) w4 HOR.out (Aside0.mk (HT.out.below HB4.out))).mono ?_
   rintro e w5 ⟨rfl, hb5⟩
   have HB5 := Lib.hid (below_then HB4.out HB4.out.size hb5); clear hb5
   go_wp2
   go_ret3
   exact ⟨by rw [E1.out, E2.out]; rfl, HB5.out⟩
  ·have hsg3 : (decide (r < 0) == decide (n < 0)) = false := beq_eq_false_iff_ne.2 hsg
   have hsg2 : (decide (r < 0) != decide (n < 0)) = true := by rw [bne, hsg3]; rfl
   obtain ⟨e1, e2⟩ := HPS.out.2 (by rw [hsg2, hr2]; rfl)
   clear hsg
   have HOQ := Lib.hid (of_f (q - 1) (by omega) (by omega))
   have HOR := Lib.hid (of_f (r + n) (by omega) (by omega))
   have hw1 : IntKind.i64.wrap (q - 1) = q - 1 := by rw [IntKind.wrap_i64]; omega
   have hw2 : IntKind.i64.wrap (r + n) = r + n := by rw [IntKind.wrap_i64]; omega
   have E1 := Lib.hid e1; clear e1
   have E2 := Lib.hid e2; clear e2
   go_wp2_with fail
   refine (C.whole_Of.calls (q - 1) (itx (q - 1)) w3.drew HOQ.out (Aside0.mk (HT.out.below (Below.drew HB3.out)))).mono ?_
   rintro e w4 ⟨rfl, hb4⟩
   have HB4 := Lib.hid (below_then (Below.drew HB3.out) (Below.drew HB3.out).size hb4); clear hb4
   go_wp2_with fail
   refine (C.whole_Of.calls (r + n) (itx (r + n)) w4 HOR.out (Aside0.mk (HT.out.below HB4.out))).mono ?_
   rintro e w5 ⟨rfl, hb5⟩
   have HB5 := Lib.hid (below_then HB4.out HB4.out.size hb5); clear hb5
   go_wp2
   go_ret3
   exact ⟨by rw [E1.out, E2.out]; rfl, HB5.out⟩
set_option maxRecDepth 100000 in
set_option maxHeartbeats 8000000 in
theorem parted_big (a b : ByteArray) (w : World) (h1 : chk a = 0) (h2 : chk b = 0) (hnz : ival b ≠ 0) (h9 : ¬ (a.size ≤ 9 ∧ b.size ≤ 9)) (hall : C.whole_all.f 5 [a, b] = some 0) (ht : Tabs w) :
  Calls Tryz.prog 103 #[.string a, .string b] w (PartPost w (itx ((ival a).fdiv (ival b)), itx ((ival a).fmod (ival b)), 0)) := by
 have HT := Lib.hid ht; clear ht
 obtain ⟨y, hy⟩ : ∃ y : List ByteArray, y = [a, b] := ⟨_, rfl⟩
 have Ny := Lib.hid hy
 rw [← hy] at hall
 have HAL := Lib.hid hall; clear hall hy
 have hb0 := zero_text h2
 rw [decide_eq_false hnz] at hb0
 have H1 := Lib.hid h1; clear h1
 have H2 := Lib.hid h2; clear h2
 have hs : smallF a b = (0, 0, false) := if_neg h9
 have HS := Lib.hid hs; clear hs h9
 have HNZ : Hid (0 < (ival b).natAbs) := Lib.hid (by omega)
 clear hnz
 go_enter Tryz.func103, Tryz.ntmps103
 go_wp2_with (first | ((with_reducible refine gate_dst (N := 20) rfl ?_); refine Kd.R_lit Kd.string _ 39 ?hg (N := 20) ?hd (xs := ([a, b] : List ByteArray)) (inner := [.string a, .string b]) (ok := fun _ => True) (okp := fun _ => True) ?hr ?hp (fun _ hk => hk) trivial (Below.refl _ _) (Nat.le_refl _) (by simp) ?_; (case hd => rfl); (case hg => rfl); (case hr => first | (go_simp; done) | (go_simp; rfl)); (case hp => exact (Reps.one (show Kd.M Kd.string _ _ _ a [.string a] from rfl) (Reps.one (show Kd.M Kd.string _ _ _ b [.string b] from rfl) (Reps.none _ _)))); intro v1 w1 ho hb1 hg_ hnew_; clear hg_ hnew_; rw [← Ny.out] at ho; have HO := Lib.hid ho; clear ho; have HB1 := Lib.hid hb1; clear hb1; obtain ⟨Ao, co, eo⟩ := Kd.R_slice HO.out; subst eo))
 refine (C.whole_all.calls 5 Ao co y 0 w1 (Kd.R_reads' HO.out).2.2 (Kd.R_reads' HO.out).2.1 HAL.out).mono ?_
 rintro e w2 ⟨rfl, hb2⟩
 have HB2 := Lib.hid (below_then HB1.out HB1.out.size hb2); clear hb2 HO
 go_wp2_with fail
 refine (small_calls a b w2 H1.out H2.out).mono ?_
 rintro e w3 ⟨rfl, hb3⟩
 have HB3 := Lib.hid (below_then HB2.out HB2.out.size hb3); clear hb3
 rw [HS.out]
 go_wp2_with fail
 refine (read_calls a H1.out w3).mono ?_
 rintro e w4 ⟨rfl, hm4, hb4⟩
 have HM4 := Lib.hid hm4; clear hm4
 have HB4 := Lib.hid (below_then HB3.out HB3.out.size hb4); have HB4a := Lib.hid hb4; clear hb4
 go_wp2_with fail
 refine (read_calls b H2.out w4).mono ?_
 rintro e w5 ⟨rfl, hm5, hb5⟩
 have HM5 := Lib.hid hm5; clear hm5
 have HM4' := Lib.hid (HM4.out.below hb5); clear HM4
 have HB5 := Lib.hid (below_then HB4.out HB4.out.size hb5); have HB5a := Lib.hid hb5; clear hb5
 go_wp2_with fail
 refine (divided_calls w3.heap.size w4.heap.size _ _ _ _ w5 HM4'.out HM5.out HNZ.out (by have := nw_digits H2.out; omega)).mono ?_
 rintro e w6 ⟨q, r, rfl, hq, hr, hqr, hmq, hmr, hb6⟩
 have HMQ := Lib.hid hmq; clear hmq
 have HMR := Lib.hid hmr; clear hmr
 have HX6 := Lib.hid (HM4'.out.below hb6)
 have HY6 := Lib.hid (HM5.out.below hb6)
 have HB6 := Lib.hid (below_then HB5.out HB5.out.size hb6); clear hb6
 have hl4 : w3.heap.size < w5.heap.size := HM4'.out.blt
 have hl5 : w4.heap.size < w5.heap.size := HM5.out.blt
 have hxq : ¬ w3.heap.size = q := by omega
 have hxr : ¬ w3.heap.size = r := by omega
 have hyq : ¬ w4.heap.size = q := by omega
 have hyr : ¬ w4.heap.size = r := by omega
 have cx := HX6.out.c0
 have cy := HY6.out.c0
 have cq := HMQ.out.c0
 have cr := HMR.out.c0
 have fq := HMQ.out.at_.fz 0
 have fr := HMR.out.at_.fz 0
 generalize w3.heap.size = x at *
 generalize w4.heap.size = z at *
 generalize hsx : decide (ival a < 0) = sx at *
 generalize hsy : decide (ival b < 0) = sy at *
 have HSX := Lib.hid hsx; clear hsx
 have HSY := Lib.hid hsy; clear hsy
 go_wp2_with fail
 go_region
 have mq7 : Mg ((w6.setCell ⟨q, 0, none⟩ (Value.bool !sx == sy)).setCell ⟨r, 0, none⟩ (Value.bool sx)).drew q (!sx == sy) ((ival a).natAbs / (ival b).natAbs) := ((HMQ.out.setless _).other hqr 0 _).drew
 have mr7 : Mg ((w6.setCell ⟨q, 0, none⟩ (Value.bool !sx == sy)).setCell ⟨r, 0, none⟩ (Value.bool sx)).drew r sx ((ival a).natAbs % (ival b).natAbs) := ((HMR.out.other (Ne.symm hqr) 0 _).setless _).drew
 have mx7 : Mg ((w6.setCell ⟨q, 0, none⟩ (Value.bool !sx == sy)).setCell ⟨r, 0, none⟩ (Value.bool sx)).drew x sx (ival a).natAbs := ((HX6.out.other hxq 0 _).other hxr 0 _).drew
 have mz7 : Mg ((w6.setCell ⟨q, 0, none⟩ (Value.bool !sx == sy)).setCell ⟨r, 0, none⟩ (Value.bool sx)).drew z sy (ival b).natAbs := ((HY6.out.other hyq 0 _).other hyr 0 _).drew
 have hw35 := HB5.out.size
 have hb7 : Below w.heap.size w ((w6.setCell ⟨q, 0, none⟩ (Value.bool !sx == sy)).setCell ⟨r, 0, none⟩ (Value.bool sx)).drew := (below_set (below_set HB6.out (by omega) _ _) (by omega) _ _).drew
 generalize ((w6.setCell ⟨q, 0, none⟩ (Value.bool !sx == sy)).setCell ⟨r, 0, none⟩ (Value.bool sx)).drew = w7 at mq7 mr7 mx7 mz7 hb7 ⊢
 have MQ7 := Lib.hid mq7; clear mq7 HMQ
 have MZ7 := Lib.hid mz7; clear mz7 HY6
 clear cx cy cq cr fq fr HMR HX6
 have cx := mx7.c0
 have cy := MZ7.out.c0
 have cr := mr7.c1
 have MR7 := Lib.hid mr7; clear mr7
 clear mx7
 have HB7 := Lib.hid hb7; clear hb7
 have HU := Lib.hid (sg_val (ival a))
 have HV := Lib.hid (sg_val (ival b))
 rw [HSX.out] at HU
 rw [HSY.out] at HV
 by_cases hR : (ival a).natAbs % (ival b).natAbs = 0 ∨ sx = sy
 ·have hp := part_plain' (ival a).natAbs (ival b).natAbs sx sy HNZ.out hR
  rw [HU.out, HV.out, show (sx != sy) = (!sx == sy) from rfl] at hp
  have HP := Lib.hid hp; clear hp
  by_cases hR0 : (ival a).natAbs % (ival b).natAbs = 0
  ·rw [hR0, nw_zero] at cr
   clear hR hR0
   go_wp2_with fail
   go_quiet (fail)
   obtain ⟨w8, hw8⟩ : ∃ w8, w8 = w7.drewN nq := ⟨_, rfl⟩
   rw [← hw8]
   have MQ8 := Lib.hid (hw8 ▸ MQ7.out.drewN nq)
   have MR8 := Lib.hid (hw8 ▸ MR7.out.drewN nq)
   have MZ8 := Lib.hid (hw8 ▸ MZ7.out.drewN nq)
   have HB8 := Lib.hid (hw8 ▸ pw_below_drewN HB7.out nq)
   clear hw8 cx cy cr
   go_wp2_with fail
   refine (text_calls q _ _ w8 MQ8.out (HT.out.below HB8.out)).mono ?_
   rintro e w9 ⟨rfl, hb9⟩
   have MR9 := Lib.hid (MR8.out.below hb9)
   have HB9 := Lib.hid (below_then HB8.out HB8.out.size hb9); clear hb9
   go_wp2_with fail
   refine (text_calls r _ _ w9 MR9.out (HT.out.below HB9.out)).mono ?_
   rintro e w10 ⟨rfl, hb10⟩
   have HB10 := Lib.hid (below_then HB9.out HB9.out.size hb10); clear hb10
   go_wp2
   go_ret3
   exact ⟨by rw [HP.out.1, HP.out.2]; first | rfl | (simp only [hss, Bool.not_true]; rfl), HB10.out⟩
  ·have hss : (sx == sy) = true := by rw [hR.resolve_left hR0]; simp
   have hnr : ((nw ((ival a).natAbs % (ival b).natAbs) : Nat) : Int) > 0 := by have := nw_succ hR0; omega
   generalize nw ((ival a).natAbs % (ival b).natAbs) = nr at cr hnr
   have hn1 : decide ((nr : Int) > 0) = true := decide_eq_true hnr
   have hn2 : (0 < nr) = True := eq_true (by omega)
   have hn3 : ((0 : Int) < (nr : Int)) = True := eq_true hnr
   have hn4 : decide (0 < nr) = true := decide_eq_true (by omega)
   clear hR
   go_wp2_with fail
   go_quiet (fail)
   obtain ⟨w8, hw8⟩ : ∃ w8, w8 = w7.drewN nq := ⟨_, rfl⟩
   rw [← hw8]
   have MQ8 := Lib.hid (hw8 ▸ MQ7.out.drewN nq)
   have MR8 := Lib.hid (hw8 ▸ MR7.out.drewN nq)
   have MZ8 := Lib.hid (hw8 ▸ MZ7.out.drewN nq)
   have HB8 := Lib.hid (hw8 ▸ pw_below_drewN HB7.out nq)
   clear hw8 cx cy cr
   go_wp2_with fail
   refine (text_calls q _ _ w8 MQ8.out (HT.out.below HB8.out)).mono ?_
   rintro e w9 ⟨rfl, hb9⟩
   have MR9 := Lib.hid (MR8.out.below hb9)
   have HB9 := Lib.hid (below_then HB8.out HB8.out.size hb9); clear hb9
   go_wp2_with fail
   refine (text_calls r _ _ w9 MR9.out (HT.out.below HB9.out)).mono ?_
   rintro e w10 ⟨rfl, hb10⟩
   have HB10 := Lib.hid (below_then HB9.out HB9.out.size hb10); clear hb10
   go_wp2
   go_ret3
   exact ⟨by rw [HP.out.1, HP.out.2]; first | rfl | (simp only [hss, Bool.not_true]; rfl), HB10.out⟩
 ·have hss : (sx == sy) = false := beq_eq_false_iff_ne.2 (fun h => hR (.inr h))
  have hR0 : ¬ (ival a).natAbs % (ival b).natAbs = 0 := fun h => hR (.inl h)
  have hnr : ((nw ((ival a).natAbs % (ival b).natAbs) : Nat) : Int) > 0 := by have := nw_succ hR0; omega
  have hp := part_turn' (ival a).natAbs (ival b).natAbs sx sy HNZ.out (by omega) (fun h => hR (.inr h))
  rw [HU.out, HV.out] at hp
  have HP := Lib.hid hp; clear hp
  generalize nw ((ival a).natAbs % (ival b).natAbs) = nr at cr hnr
  have hn1 : decide ((nr : Int) > 0) = true := decide_eq_true hnr
  have hn2 : (0 < nr) = True := eq_true (by omega)
  have hn3 : ((0 : Int) < (nr : Int)) = True := eq_true hnr
  have hn4 : decide (0 < nr) = true := decide_eq_true (by omega)
  clear hR
  go_wp2_with fail
  go_quiet (fail)
  obtain ⟨w8, hw8⟩ : ∃ w8, w8 = w7.drewN nq := ⟨_, rfl⟩
  rw [← hw8]
  have MQ8 := Lib.hid (hw8 ▸ MQ7.out.drewN nq)
  have MR8 := Lib.hid (hw8 ▸ MR7.out.drewN nq)
  have MZ8 := Lib.hid (hw8 ▸ MZ7.out.drewN nq)
  have HB8 := Lib.hid (hw8 ▸ pw_below_drewN HB7.out nq)
  clear hw8 cx cy cr
  have hnq := w7.heap.size
  have hql := MQ8.out.blt
  have hrl := MR8.out.blt
  have hzl := MZ8.out.blt
  obtain ⟨k1, k2⟩ := one_cells w8
  have k5 := MQ8.out.c0
  have k6 := MQ8.out.at_.fz 0
  have hw08 := HB8.out.size
  go_wp2_with fail
  have mq10 := (MQ8.out.setless true).alloc (.cells (((Tryz.zeroCells119.setIfInBounds 0 (.bool true)).setIfInBounds 1 (.int .i64 1)).setIfInBounds 2 (.int .i64 1)) 119)
  have mo10 := one_mg' (w8.setCell ⟨q, 0, none⟩ (.bool true)) (size_setCell _ _ _ _).symm
  have mr10 := (MR8.out.other (c := q) (Ne.symm hqr) 0 (.bool true)).alloc (.cells (((Tryz.zeroCells119.setIfInBounds 0 (.bool true)).setIfInBounds 1 (.int .i64 1)).setIfInBounds 2 (.int .i64 1)) 119)
  have mz10 := (MZ8.out.other (c := q) hyq 0 (.bool true)).alloc (.cells (((Tryz.zeroCells119.setIfInBounds 0 (.bool true)).setIfInBounds 1 (.int .i64 1)).setIfInBounds 2 (.int .i64 1)) 119)
  have hb10 := (below_set HB8.out (b := q) (by omega) 0 (.bool true)).alloc (by rw [size_setCell]; omega) (.cells (((Tryz.zeroCells119.setIfInBounds 0 (.bool true)).setIfInBounds 1 (.int .i64 1)).setIfInBounds 2 (.int .i64 1)) 119)
  refine (plus_calls q w8.heap.size true true _ 1 _ mq10 mo10 (by omega) (room_sum (i := 1) (by rw [Nat.one_mul]; exact Nat.le_trans (Nat.div_le_self _ _) (Nat.le_of_lt (chk_lt H1.out))) one_lim (by decide))).mono ?_
  rintro e w11 ⟨rfl, hq11, hg11⟩
  have mr11 := mr10.grown hg11 (by simpa using Ne.symm hqr)
  have mz11 := mz10.grown hg11 (by simpa using hyq)
  have hb11 := below_gby hb10 (by omega) hb10.size hg11
  clear mq10 mo10 mr10 mz10 hb10 hg11 k1 k2 k5 k6
  have HQ11 := Lib.hid hq11; clear hq11
  have MR11 := Lib.hid mr11; clear mr11
  have MZ11 := Lib.hid mz11; clear mz11
  have HB11 := Lib.hid hb11; clear hb11
  go_wp2_with fail
  refine (plus_calls r z sx sy _ _ w11 MR11.out MZ11.out hyr (room_sum (i := 1) (by rw [Nat.one_mul]; exact Nat.le_trans (Nat.mod_le _ _) (Nat.le_of_lt (chk_lt H1.out))) (chk_lt H2.out) (by decide))).mono ?_
  rintro e w12 ⟨rfl, hr12, hg12⟩
  obtain ⟨sq, nq2, hmq, hsq⟩ := HQ11.out
  obtain ⟨sr, nr2, hmr, hsr⟩ := hr12
  have MQ8 := Lib.hid (hmq.grown hg12 (by simpa using hqr))
  have MR8 := Lib.hid hmr
  have HB8 := Lib.hid (below_gby HB11.out (by omega) HB11.out.size hg12)
  have hp2 := HP.out
  rw [HV.out] at hsr
  rw [← hsq, ← hsr] at hp2
  have HP := Lib.hid hp2; clear hp2 hsq hsr hmq hmr hg12
  generalize w12 = w8 at *
  go_wp2_with fail
  refine (text_calls q _ _ w8 MQ8.out (HT.out.below HB8.out)).mono ?_
  rintro e w9 ⟨rfl, hb9⟩
  have MR9 := Lib.hid (MR8.out.below hb9)
  have HB9 := Lib.hid (below_then HB8.out HB8.out.size hb9); clear hb9
  go_wp2_with fail
  refine (text_calls r _ _ w9 MR9.out (HT.out.below HB9.out)).mono ?_
  rintro e w10 ⟨rfl, hb10⟩
  have HB10 := Lib.hid (below_then HB9.out HB9.out.size hb10); clear hb10
  go_wp2
  go_ret3
  exact ⟨by rw [HP.out.1, HP.out.2]; first | rfl | (simp only [hss, Bool.not_true]; rfl), HB10.out⟩
set_option maxRecDepth 100000 in
set_option maxHeartbeats 8000000 in
theorem parted_calls (a b : ByteArray) (ha : a.size ≤ 9223372036854775807) (hb : b.size ≤ 9223372036854775807) (w : World) (ht : Tabs w) :
  Calls Tryz.prog 103 #[.string a, .string b] w (PartPost w (partF a b)) := by
 have hall := all_two a b ha hb
 by_cases hc : chks [a, b] = 0
 ·obtain ⟨h1, h2⟩ := chks_two hc
  rw [hc] at hall
  by_cases hz : ival b = 0
  ·have hp : partF a b = (⟨#[]⟩, ⟨#[]⟩, 10) := by unfold partF; rw [if_neg (fun h => h hc), if_pos hz]
   rw [hp]
   have hb0 := zero_text h2
   rw [decide_eq_true hz] at hb0
   clear hp hz hc h1 h2 ha hb
   have HT := Lib.hid ht; clear ht
   obtain ⟨y, hy⟩ : ∃ y : List ByteArray, y = [a, b] := ⟨_, rfl⟩
   have Ny := Lib.hid hy
   rw [← hy] at hall
   have HAL := Lib.hid hall; clear hall hy
   go_enter Tryz.func103, Tryz.ntmps103
   go_wp2_with (first | ((with_reducible refine gate_dst (N := 20) rfl ?_); refine Kd.R_lit Kd.string _ 39 ?hg (N := 20) ?hd (xs := ([a, b] : List ByteArray)) (inner := [.string a, .string b]) (ok := fun _ => True) (okp := fun _ => True) ?hr ?hp (fun _ hk => hk) trivial (Below.refl _ _) (Nat.le_refl _) (by simp) ?_; (case hd => rfl); (case hg => rfl); (case hr => first | (go_simp; done) | (go_simp; rfl)); (case hp => exact (Reps.one (show Kd.M Kd.string _ _ _ a [.string a] from rfl) (Reps.one (show Kd.M Kd.string _ _ _ b [.string b] from rfl) (Reps.none _ _)))); intro v1 w1 ho hb1 hg_ hnew_; clear hg_ hnew_; rw [← Ny.out] at ho; have HO := Lib.hid ho; clear ho; have HB1 := Lib.hid hb1; clear hb1; obtain ⟨Ao, co, eo⟩ := Kd.R_slice HO.out; subst eo))
   refine (C.whole_all.calls 5 Ao co y 0 w1 (Kd.R_reads' HO.out).2.2 (Kd.R_reads' HO.out).2.1 HAL.out).mono ?_
   rintro e w2 ⟨rfl, hb2⟩
   have HB2 := Lib.hid (below_then HB1.out HB1.out.size hb2); clear hb2 HO
   go_wp2
   go_ret3
   exact ⟨rfl, HB2.out⟩
  ·have hp : partF a b = (itx ((ival a).fdiv (ival b)), itx ((ival a).fmod (ival b)), 0) := by unfold partF; rw [if_neg (fun h => h hc), if_neg hz]
   rw [hp]
   by_cases h9 : a.size ≤ 9 ∧ b.size ≤ 9
   ·exact parted_small a b w h1 h2 hz h9 hall ht
   ·exact parted_big a b w h1 h2 hz h9 hall ht
 ·have hp : partF a b = (⟨#[]⟩, ⟨#[]⟩, chks [a, b]) := by unfold partF; rw [if_pos hc]
  rw [hp]
  generalize chks [a, b] = c at hall hc ⊢
  have hc2 : (c == 0) = false := beq_eq_false_iff_ne.2 hc
  clear hp hc ha hb
  have HT := Lib.hid ht; clear ht
  obtain ⟨y, hy⟩ : ∃ y : List ByteArray, y = [a, b] := ⟨_, rfl⟩
  have Ny := Lib.hid hy
  rw [← hy] at hall
  have HAL := Lib.hid hall; clear hall hy
  go_enter Tryz.func103, Tryz.ntmps103
  go_wp2_with (first | ((with_reducible refine gate_dst (N := 20) rfl ?_); refine Kd.R_lit Kd.string _ 39 ?hg (N := 20) ?hd (xs := ([a, b] : List ByteArray)) (inner := [.string a, .string b]) (ok := fun _ => True) (okp := fun _ => True) ?hr ?hp (fun _ hk => hk) trivial (Below.refl _ _) (Nat.le_refl _) (by simp) ?_; (case hd => rfl); (case hg => rfl); (case hr => first | (go_simp; done) | (go_simp; rfl)); (case hp => exact (Reps.one (show Kd.M Kd.string _ _ _ a [.string a] from rfl) (Reps.one (show Kd.M Kd.string _ _ _ b [.string b] from rfl) (Reps.none _ _)))); intro v1 w1 ho hb1 hg_ hnew_; clear hg_ hnew_; rw [← Ny.out] at ho; have HO := Lib.hid ho; clear ho; have HB1 := Lib.hid hb1; clear hb1; obtain ⟨Ao, co, eo⟩ := Kd.R_slice HO.out; subst eo))
  refine (C.whole_all.calls 5 Ao co y c w1 (Kd.R_reads' HO.out).2.2 (Kd.R_reads' HO.out).2.1 HAL.out).mono ?_
  rintro e w2 ⟨rfl, hb2⟩
  have HB2 := Lib.hid (below_then HB1.out HB1.out.size hb2); clear hb2 HO
  go_wp2
  go_ret3
  exact ⟨rfl, HB2.out⟩
end Go.Proofs.YtkdpcgmnkifbbaaGreatDoor
end
section
namespace Go.Proofs.YtkdpcgmnkifbbaaGreatDoor
open Go.RowKit Go.Proofs.YtkdpcgmnkifbbaaGreatDoorW.PrintWords Go.Proofs.YtkdpcgmnkifbbaaGreatDoorW.PrintMore
def gcdv (u v : Int) : Int := (Nat.gcd u.natAbs v.natAbs : Int)
theorem wd_one {m : Nat} (h : nw m ≤ 1) : wd m 0 = m := by
 have := lt_nw m
 have h2 : m < BB ^ 1 := Nat.lt_of_lt_of_le this (Nat.pow_le_pow_right (by decide) h)
 rw [Nat.pow_one] at h2
 unfold wd
 rw [Nat.pow_zero, Nat.div_one, Nat.mod_eq_of_lt h2]
set_option maxRecDepth 100000 in
set_option maxHeartbeats 8000000 in
theorem gcd_calls (a b : ByteArray) (ha : a.size ≤ 9223372036854775807) (hb : b.size ≤ 9223372036854775807) (w : World) (ht : Tabs w) :
  Calls Tryz.prog 60 #[.string a, .string b] w (TwoPost w (two a b (itx (gcdv (ival a) (ival b)), 0))) := by
 have hall := all_two a b ha hb
 have HT := Lib.hid ht; clear ht
 have HAL := Lib.hid hall; clear hall ha hb
 obtain ⟨y, hy⟩ : ∃ y : List ByteArray, y = [a, b] := ⟨_, rfl⟩
 have Ny := Lib.hid hy
 rw [← hy] at HAL
 by_cases hc : chks [a, b] = 0
 ·rw [← hy] at hc
  rw [hc] at HAL
  rw [hy] at hc
  clear hy
  obtain ⟨h1, h2⟩ := chks_two hc
  have htwo := two_ok (r := (itx (gcdv (ival a) (ival b)), 0)) hc
  rw [htwo]
  clear hc htwo
  have H1 := Lib.hid h1; clear h1
  have H2 := Lib.hid h2; clear h2
  obtain ⟨G, hG⟩ : ∃ G, G = Nat.gcd (ival a).natAbs (ival b).natAbs := ⟨_, rfl⟩
  have hpost : gcdv (ival a) (ival b) = (G : Int) := by rw [hG]; rfl
  rw [hpost]
  have HGE := Lib.hid hG.symm; clear hG hpost
  go_enter Tryz.func60, Tryz.ntmps60
  go_wp2_with (first | ((with_reducible refine gate_dst (N := 15) rfl ?_); refine Kd.R_lit Kd.string _ 39 ?hg (N := 15) ?hd (xs := ([a, b] : List ByteArray)) (inner := [.string a, .string b]) (ok := fun _ => True) (okp := fun _ => True) ?hr ?hp (fun _ hk => hk) trivial (Below.refl _ _) (Nat.le_refl _) (by simp) ?_; (case hd => rfl); (case hg => rfl); (case hr => first | (go_simp; done) | (go_simp; rfl)); (case hp => exact (Reps.one (show Kd.M Kd.string _ _ _ a [.string a] from rfl) (Reps.one (show Kd.M Kd.string _ _ _ b [.string b] from rfl) (Reps.none _ _)))); intro v1 w1 ho hb1 hg_ hnew_; clear hg_ hnew_; rw [← Ny.out] at ho; have HO := Lib.hid ho; clear ho; have HB1 := Lib.hid hb1; clear hb1; obtain ⟨Ao, co, eo⟩ := Kd.R_slice HO.out; subst eo))
  refine (C.whole_all.calls 5 Ao co y 0 w1 (Kd.R_reads' HO.out).2.2 (Kd.R_reads' HO.out).2.1 HAL.out).mono ?_
  rintro e w2 ⟨rfl, hb2⟩
  have HB2 := Lib.hid (below_then HB1.out HB1.out.size hb2); clear hb2 HO
  go_wp2_with fail
  refine (read_calls a H1.out w2).mono ?_
  rintro e w4 ⟨rfl, hm4, hb4⟩
  have HM4 := Lib.hid hm4; clear hm4
  have HB4 := Lib.hid (below_then HB2.out HB2.out.size hb4); clear hb4
  go_wp2_with fail
  refine (read_calls b H2.out w4).mono ?_
  rintro e w5 ⟨rfl, hm5, hb5⟩
  have HM5 := Lib.hid hm5; clear hm5
  have HM4' := Lib.hid (HM4.out.below hb5); clear HM4
  have HB5 := Lib.hid (below_then HB4.out HB4.out.size hb5); clear hb5
  have hb24 := HB2.out.size
  have hb44 := HB4.out.size
  go_wp2
  go_loopg [7, 8] (ival b).natAbs (fun g v7 v8 wr => ∃ (bx bz : Nat) (sx sy : Bool) (m : Nat), v7 = .pointer (some ⟨bx, 0, none⟩) ∧ v8 = .pointer (some ⟨bz, 0, none⟩) ∧ w.heap.size ≤ bx ∧ w.heap.size ≤ bz ∧ Hid (Mg wr bx sx m) ∧ Hid (Mg wr bz sy g) ∧ Hid (Nat.gcd m g = G) ∧ Hid (nw m ≤ 114 ∧ nw g ≤ 114) ∧ Hid (Below w.heap.size w wr))
  case atStart => exact ⟨w2.heap.size, w4.heap.size, _, _, (ival a).natAbs, rfl, rfl, hb24, hb44, HM4', HM5, HGE, Lib.hid ⟨nw_digits H1.out, nw_digits H2.out⟩, HB5⟩
  case round =>
   obtain ⟨bx, bz, sx, sy, m, rfl, rfl, hbx, hbz, HX, HY, HG, HN, HB⟩ := hrel
   clear HM4' HM5 HB5 HB4 HB2 HB1 hb24 hb44 HGE
   have cx := HX.out.c1
   have cy := HY.out.c1
   have cl := HX.out.c0
   have fl := HX.out.at_.fz 0
   rcases Nat.eq_zero_or_pos gk with h0 | h0
   ·subst h0
    rw [nw_zero] at cy
    go_wp2_with fail
    refine (text_calls bx false m _ (HX.out.setless false) (HT.out.below (below_set HB.out hbx 0 (.bool false)))).mono ?_
    rintro e w7 ⟨rfl, hb7⟩
    have hb8 := below_set HB.out hbx 0 (.bool false)
    have HB7 := Lib.hid (below_then hb8 hb8.size hb7); clear hb7 hb8
    go_wp2
    go_ret2
    have hg := HG.out
    rw [Nat.gcd_zero_right] at hg
    exact ⟨by rw [hg]; rfl, HB7.out⟩
   ·obtain ⟨g, rfl⟩ : ∃ g, gk = g + 1 := ⟨gk - 1, by omega⟩
    have hgp : ((nw (g + 1) : Nat) : Int) > 0 := by have := nw_succ (show g + 1 ≠ 0 by omega); omega
    clear h0 fl cl
    by_cases hm1 : nw m ≤ 1
    ·by_cases hg1 : nw (g + 1) ≤ 1
     ·have c0 := HX.out.cw 0 (by decide)
      have d0 := HY.out.cw 0 (by decide)
      rw [wd_one hm1] at c0
      rw [wd_one hg1] at d0
      have hmB : m < 1000000000 := by
       have := lt_nw m
       have h2 : m < BB ^ 1 := Nat.lt_of_lt_of_le this (Nat.pow_le_pow_right (by decide) hm1)
       rw [Nat.pow_one, BB_eq] at h2; exact h2
      have hgB : g + 1 < 1000000000 := by
       have := lt_nw (g + 1)
       have h2 : g + 1 < BB ^ 1 := Nat.lt_of_lt_of_le this (Nat.pow_le_pow_right (by decide) hg1)
       rw [Nat.pow_one, BB_eq] at h2; exact h2
      have hm1' : ((nw m : Nat) : Int) ≤ 1 := by omega
      have hg1' : ((nw (g + 1) : Nat) : Int) ≤ 1 := by omega
      generalize nw m = am at cx hm1' hm1
      generalize nw (g + 1) = ag at cy hg1' hg1 hgp
      obtain ⟨n, hn⟩ : ∃ n, n = g + 1 := ⟨_, rfl⟩
      rw [← hn] at d0 hgB HG
      clear hm1 hg1 hn
      go_wp2_with fail
      go_region
      go_wp2
      go_loopg [9, 10] n (fun k v9 v10 wq => ∃ (p : Nat), v9 = .int .i64 (p : Int) ∧ v10 = .int .i64 (k : Int) ∧ p < 1000000000 ∧ k < 1000000000 ∧ Hid (Nat.gcd p k = G) ∧ Hid (Below w.heap.size w wq))
      case atStart => exact ⟨m, rfl, rfl, hmB, hgB, HG, Lib.hid (HB.out.drew)⟩
      case round =>
       clear cx cy c0 d0
       obtain ⟨p, rfl, rfl, hp, hk, HGP, HBQ⟩ := hrel
       rcases Nat.eq_zero_or_pos gk with h0 | h0
       ·subst h0
        have hg := HGP.out
        rw [Nat.gcd_zero_right] at hg
        have HGE2 := Lib.hid hg; clear hg
        have HOF := Lib.hid (of_f (p : Int) (by omega) (by omega))
        go_wp2_with fail
        refine (C.whole_Of.calls (p : Int) (itx p) wr HOF.out (Aside0.mk (HT.out.below HBQ.out))).mono ?_
        rintro e w7 ⟨rfl, hb7⟩
        have HB7 := Lib.hid (below_then HBQ.out HBQ.out.size hb7); clear hb7
        go_wp2
        go_ret2
        exact ⟨by rw [← HGE2.out]; rfl, HB7.out⟩
       ·obtain ⟨k, rfl⟩ : ∃ k, gk = k + 1 := ⟨gk - 1, by omega⟩
        have hz : (((k + 1 : Nat) : Int) == 0) = false := by rw [beq_eq_false_iff_ne]; omega
        have hz2 : ¬ ((k + 1 : Nat) : Int) = 0 := by omega
        have hmod : (p : Int) % ((k + 1 : Nat) : Int) = ((p % (k + 1) : Nat) : Int) := rfl
        have hlt : p % (k + 1) < k + 1 := Nat.mod_lt _ (Nat.succ_pos k)
        have HGN : Hid (Nat.gcd (k + 1) (p % (k + 1)) = G) := Lib.hid (by rw [← HGP.out, Nat.gcd_comm p, Nat.gcd_rec (k + 1) p, Nat.gcd_comm])
        have HMD := Lib.hid hmod; clear hmod
        obtain ⟨kk, hkk⟩ : ∃ kk : Int, kk = ((k + 1 : Nat) : Int) := ⟨_, rfl⟩
        rw [← hkk] at hz hz2 HMD ⊢
        have HKK := Lib.hid hkk; clear hkk h0
        go_wp2_with fail
        go_region
        rw [HMD.out, HKK.out]
        go_wp2
        go_roundg (p % (k + 1))
        case measure => exact hlt
        case rel => exact ⟨k + 1, rfl, rfl, hk, by omega, HGN, Lib.hid HBQ.out.drew⟩
     ·have hm1' : ((nw m : Nat) : Int) ≤ 1 := by omega
      have hg1' : ¬ ((nw (g + 1) : Nat) : Int) ≤ 1 := by omega
      generalize nw m = am at cx hm1' hm1
      generalize nw (g + 1) = ag at cy hg1' hg1 hgp
      clear hm1 hg1
      go_wp2_with fail
      refine (divided_calls bx bz _ _ m (g + 1) wr HX.out HY.out (by omega) (by have := HN.out; omega)).mono ?_
      rintro e w6 ⟨q, r, rfl, hq, hr, hqr, hmq, hmr, hb6⟩
      have HMR := Lib.hid hmr; clear hmr hmq hqr hq
      have hyy := HY.out.below hb6
      have HYY := Lib.hid hyy; clear hyy
      have hbs := HB.out.size
      have HB6 := Lib.hid (below_then HB.out HB.out.size hb6); clear hb6
      go_wp2
      go_roundg (m % (g + 1))
      case measure => exact Nat.mod_lt _ (Nat.succ_pos g)
      case rel => exact ⟨bz, r, _, _, g + 1, rfl, rfl, hbz, by omega, HYY, HMR, Lib.hid (by rw [← HG.out, Nat.gcd_comm m, Nat.gcd_rec (g + 1) m, Nat.gcd_comm]), Lib.hid (by have := HN.out; exact ⟨this.2, nw_le (Nat.lt_of_lt_of_le (Nat.mod_lt _ (Nat.succ_pos g)) (Nat.le_of_lt (Nat.lt_of_lt_of_le (lt_nw (g + 1)) (Nat.pow_le_pow_right (by decide) this.2))))⟩), HB6⟩
    ·have hm1' : ¬ ((nw m : Nat) : Int) ≤ 1 := by omega
     generalize nw m = am at cx hm1' hm1
     generalize nw (g + 1) = ag at cy hgp
     clear hm1
     go_wp2_with fail
     refine (divided_calls bx bz _ _ m (g + 1) wr HX.out HY.out (by omega) (by have := HN.out; omega)).mono ?_
     rintro e w6 ⟨q, r, rfl, hq, hr, hqr, hmq, hmr, hb6⟩
     have HMR := Lib.hid hmr; clear hmr hmq hqr hq
     have hyy := HY.out.below hb6
     have HYY := Lib.hid hyy; clear hyy
     have hbs := HB.out.size
     have HB6 := Lib.hid (below_then HB.out HB.out.size hb6); clear hb6
     go_wp2
     go_roundg (m % (g + 1))
     case measure => exact Nat.mod_lt _ (Nat.succ_pos g)
     case rel => exact ⟨bz, r, _, _, g + 1, rfl, rfl, hbz, by omega, HYY, HMR, Lib.hid (by rw [← HG.out, Nat.gcd_comm m, Nat.gcd_rec (g + 1) m, Nat.gcd_comm]), Lib.hid (by have := HN.out; exact ⟨this.2, nw_le (Nat.lt_of_lt_of_le (Nat.mod_lt _ (Nat.succ_pos g)) (Nat.le_of_lt (Nat.lt_of_lt_of_le (lt_nw (g + 1)) (Nat.pow_le_pow_right (by decide) this.2))))⟩), HB6⟩
 ·have htwo := two_bad (r := (itx (gcdv (ival a) (ival b)), 0)) hc
  rw [htwo]
  rw [show chks y = chks [a, b] by rw [hy]] at HAL
  generalize chks [a, b] = c at HAL hc ⊢
  clear hy htwo
  have hc2 : (c == 0) = false := beq_eq_false_iff_ne.2 hc
  clear hc
  go_enter Tryz.func60, Tryz.ntmps60
  go_wp2_with (first | ((with_reducible refine gate_dst (N := 15) rfl ?_); refine Kd.R_lit Kd.string _ 39 ?hg (N := 15) ?hd (xs := ([a, b] : List ByteArray)) (inner := [.string a, .string b]) (ok := fun _ => True) (okp := fun _ => True) ?hr ?hp (fun _ hk => hk) trivial (Below.refl _ _) (Nat.le_refl _) (by simp) ?_; (case hd => rfl); (case hg => rfl); (case hr => first | (go_simp; done) | (go_simp; rfl)); (case hp => exact (Reps.one (show Kd.M Kd.string _ _ _ a [.string a] from rfl) (Reps.one (show Kd.M Kd.string _ _ _ b [.string b] from rfl) (Reps.none _ _)))); intro v1 w1 ho hb1 hg_ hnew_; clear hg_ hnew_; rw [← Ny.out] at ho; have HO := Lib.hid ho; clear ho; have HB1 := Lib.hid hb1; clear hb1; obtain ⟨Ao, co, eo⟩ := Kd.R_slice HO.out; subst eo))
  refine (C.whole_all.calls 5 Ao co y c w1 (Kd.R_reads' HO.out).2.2 (Kd.R_reads' HO.out).2.1 HAL.out).mono ?_
  rintro e w2 ⟨rfl, hb2⟩
  have HB2 := Lib.hid (below_then HB1.out HB1.out.size hb2); clear hb2 HO
  go_wp2
  go_ret2
  exact ⟨rfl, HB2.out⟩
end Go.Proofs.YtkdpcgmnkifbbaaGreatDoor
end
section
namespace Go.Proofs.YtkdpcgmnkifbbaaGreatDoor
open Go.RowKit Go.Proofs.YtkdpcgmnkifbbaaGreatDoorW.PrintWords Go.Proofs.YtkdpcgmnkifbbaaGreatDoorW.PrintMore
def ch : Nat → Nat → Nat
 | _, 0 => 1
 | 0, _ + 1 => 0
 | n + 1, k + 1 => ch n k + ch n (k + 1)
theorem ch_zero (n : Nat) : ch n 0 = 1 := by cases n <;> rfl
theorem ch_lt : ∀ (n k : Nat), n < k → ch n k = 0
 | 0, k + 1, _ => rfl
 | n + 1, k + 1, h => by rw [ch, ch_lt n k (by omega), ch_lt n (k + 1) (by omega)]
theorem ch_self : ∀ n, ch n n = 1
 | 0 => rfl
 | n + 1 => by rw [ch, ch_self n, ch_lt n (n + 1) (by omega)]
theorem ch_mul : ∀ (n k : Nat), (n + 1) * ch n k = ch (n + 1) (k + 1) * (k + 1)
 | 0, 0 => rfl
 | 0, k + 1 => by rw [ch_lt 0 (k + 1) (by omega), ch_lt 1 (k + 2) (by omega)]; simp
 | n + 1, 0 => by
  have := ch_mul n 0
  rw [ch_zero] at this ⊢
  rw [ch, ch_zero]; omega
 | n + 1, k + 1 => by
  have h1 := ch_mul n k
  have h2 := ch_mul n (k + 1)
  rw [show ch (n + 1 + 1) (k + 1 + 1) = ch (n + 1) (k + 1) + ch (n + 1) (k + 1 + 1) from rfl, Nat.add_mul (ch (n + 1) (k + 1)), ← h2]
  rw [show (ch (n + 1) (k + 1)) * (k + 1 + 1) = ch (n + 1) (k + 1) * (k + 1) + ch (n + 1) (k + 1) by rw [Nat.mul_add, Nat.mul_one], ← h1]
  rw [Nat.add_mul (n + 1) 1, Nat.one_mul]
  have e : ch (n + 1) (k + 1) = ch n k + ch n (k + 1) := rfl
  rw [e, Nat.mul_add]; omega
theorem ch_step {n i : Nat} (h : i ≤ n) : ch n i * (n - i) = ch n (i + 1) * (i + 1) := by
 have h1 := ch_mul n i
 rw [show ch (n + 1) (i + 1) = ch n i + ch n (i + 1) from rfl, Nat.add_mul (ch n i), Nat.mul_comm (n + 1)] at h1
 have h2 : ch n i * (n + 1) = ch n i * (n - i) + ch n i * (i + 1) := by rw [← Nat.mul_add]; congr 1; omega
 omega
theorem ch_div {n i : Nat} (h : i ≤ n) : ch n i * (n - i) / (i + 1) = ch n (i + 1) := by
 rw [ch_step h]; exact Nat.mul_div_cancel _ (Nat.succ_pos i)
theorem ch_symm : ∀ (n k : Nat), k ≤ n → ch n (n - k) = ch n k
 | 0, k, h => by have : k = 0 := by omega
                 subst this; rfl
 | n + 1, 0, _ => by rw [Nat.sub_zero, ch_self, ch_zero]
 | n + 1, k + 1, h => by
  rcases Nat.lt_or_ge k n with h1 | h1
  ·have h2 := ch_symm n k (by omega)
   have h3 := ch_symm n (k + 1) (by omega)
   obtain ⟨j, hj⟩ : ∃ j, n - k = j + 1 := ⟨n - k - 1, by omega⟩
   rw [show n + 1 - (k + 1) = j + 1 by omega, ch, ch, ← h2, ← h3, hj, show n - (k + 1) = j by omega]
   omega
  ·obtain rfl : k = n := by omega
   rw [Nat.sub_self, ch_zero, ch_self]
theorem ch_le : ∀ (n k : Nat), ch n k ≤ 2 ^ n
 | n, 0 => by rw [ch_zero]; exact Nat.one_le_two_pow
 | 0, k + 1 => by rw [ch]; exact Nat.zero_le _
 | n + 1, k + 1 => by rw [ch, Nat.pow_succ]; have := ch_le n k; have := ch_le n (k + 1); omega
theorem ch_small {n k : Nat} (h : n ≤ 30) : ch n k ≤ 1073741824 := Nat.le_trans (ch_le n k) (Nat.pow_le_pow_right (by decide) h)
theorem chk_small {v : Int} (h : v.natAbs < 10 ^ 19) : chk (itx v) = 0 := by rw [chk_itx, if_pos (fits_small h)]
theorem nw_two {m : Nat} (h : m < 100000000000) : nw m ≤ 2 := nw_le (lt_BB (L := 11) (by omega) (by decide))
theorem nd_le (i : Nat) (h : i ≤ 30) : nw (i + 1) ≤ 231 := Nat.le_trans (nw_two (m := i + 1) (by omega)) (by decide)
def BinPost (w : World) (v : Int) (e : Ending) (w' : World) : Prop := e = .returned (.tuple #[.string (itx v), .int .i64 0]) ∧ Below w.heap.size w w'
set_option maxRecDepth 100000 in
set_option maxHeartbeats 8000000 in
theorem binomial_calls (n k : Nat) (hk : k ≤ n) (hn : n ≤ 30) (w : World) (ht : Tabs w) :
  Calls Tryz.prog 55 #[.int .i64 n, .int .i64 k] w (BinPost w (ch n k)) := by
 have HT := Lib.hid ht; clear ht
 have p1 : ¬ (n : Int) < 0 := by omega
 have p2 : ¬ (n : Int) > 4096 := by omega
 have p3 : ¬ (k : Int) < 0 := by omega
 have p4 : ¬ (k : Int) > (n : Int) := by omega
 have hone : (⟨#[49]⟩ : ByteArray) = itx 1 := by unfold itx Lib.itoa; rw [if_neg (by decide), dd_small (by decide)]; rfl
 have H1 : Hid (chk (⟨#[49]⟩ : ByteArray) = 0) := Lib.hid (by rw [hone]; exact chk_small (by decide))
 have HV1 : Hid (ival (⟨#[49]⟩ : ByteArray) = 1) := Lib.hid (by rw [hone]; exact ival_itx 1)
 clear hone
 obtain ⟨M, hM⟩ : ∃ M : Nat, M = min k (n - k) := ⟨_, rfl⟩
 have hMi : min (k : Int) ((n : Int) - (k : Int)) = (M : Int) := by omega
 have HS : Hid (ch n M = ch n k) := Lib.hid (by
  rw [hM]
  rcases Nat.le_total k (n - k) with h | h
  ·rw [Nat.min_eq_left h]
  ·rw [Nat.min_eq_right h, ch_symm n k hk])
 have hMn : M ≤ n := by omega
 clear hM
 have hw1 : IntKind.i64.wrap ((n : Int) - (k : Int)) = (n : Int) - (k : Int) := by rw [IntKind.wrap_i64]; omega
 go_enter Tryz.func55, Tryz.ntmps55
 go_wp2_with fail
 refine (read_calls ⟨#[49]⟩ H1.out w).mono ?_
 rintro e w1 ⟨rfl, hm1, hb1⟩
 rw [HV1.out] at hm1
 have HM1 := Lib.hid hm1; clear hm1
 have HB1 := Lib.hid hb1; clear hb1
 have hM1 : Mg w1 w.heap.size false (ch n 0) := by rw [ch_zero]; exact HM1.out
 have HMA := Lib.hid hM1; clear hM1 HM1
 go_wp2
 (try rw [hMi])
 go_loopg [6, 27] M (fun g v6 v27 wr => ∃ (i bo : Nat), v6 = .pointer (some ⟨bo, 0, none⟩) ∧ v27 = .int .i64 (i : Int) ∧ g + i = M ∧ Hid (Mg wr bo false (ch n i)) ∧ Hid (Below w.heap.size w wr))
 case atStart => exact ⟨0, w.heap.size, rfl, rfl, by omega, HMA, HB1⟩
 case round =>
  clear HMA HB1
  obtain ⟨i, bo, rfl, rfl, hgi, HI, HB⟩ := hrel
  rcases Nat.eq_zero_or_pos gk with h0 | h0
  ·obtain rfl : i = M := by omega
   go_wp2_with fail
   refine (limited_calls bo false (ch n i) wr HI.out (HT.out.below HB.out)).mono ?_
   rintro e w7 ⟨rfl, hb7⟩
   have HB7 := Lib.hid (below_then HB.out HB.out.size hb7); clear hb7
   have hkp : kept (sg false (ch n i)) = (itx (ch n k : Int), 0) := by
    rw [HS.out]
    exact kept_fits (fits_small (by have := ch_small (n := n) (k := k) hn; have e1 : sg false (ch n k) = (ch n k : Int) := rfl; rw [e1]; omega))
   have HK := Lib.hid hkp; clear hkp
   go_wp2
   go_ret2
   exact ⟨by rw [HK.out]; rfl, HB7.out⟩
  ·obtain ⟨g, rfl⟩ : ∃ g, gk = g + 1 := ⟨gk - 1, by omega⟩
   have hiM : (i : Int) < (M : Int) := by omega
   have hw2 : IntKind.i64.wrap ((n : Int) - (i : Int)) = (n : Int) - (i : Int) := by rw [IntKind.wrap_i64]; omega
   have hw3 : IntKind.i64.wrap ((i : Int) + 1) = (i : Int) + 1 := by rw [IntKind.wrap_i64]; omega
   have hin : i < n := by omega
   have HO1 := Lib.hid (of_f ((n : Int) - (i : Int)) (by omega) (by omega))
   have HO2 := Lib.hid (of_f ((i : Int) + 1) (by omega) (by omega))
   have HC1 : Hid (chk (itx ((n : Int) - (i : Int))) = 0) := Lib.hid (chk_small (by omega))
   have HC2 : Hid (chk (itx ((i : Int) + 1)) = 0) := Lib.hid (chk_small (by omega))
   have hs1 := ch_small (n := n) (k := i) hn
   have hs2 := ch_small (n := n) (k := i + 1) hn
   have hml : ch n i * (n - i) ≤ 1073741824 * 30 := Nat.mul_le_mul hs1 (by omega)
   have HML := Lib.hid hml; clear hml
   have HS1 := Lib.hid hs1; clear hs1
   have HS2 := Lib.hid hs2; clear hs2
   have hnw := nw_two (m := ch n (i + 1)) (by have := HS2.out; omega)
   go_wp2_with fail
   refine (C.whole_Of.calls ((n : Int) - (i : Int)) _ wr HO1.out (Aside0.mk (HT.out.below HB.out))).mono ?_
   rintro e w3 ⟨rfl, hb3⟩
   have HI3 := Lib.hid (HI.out.below hb3)
   have HB3 := Lib.hid (below_then HB.out HB.out.size hb3); clear hb3
   go_wp2_with fail
   refine (read_calls _ HC1.out w3).mono ?_
   rintro e w4 ⟨rfl, hm4, hb4⟩
   have hm4' : Mg w4 w3.heap.size false (n - i) := by
    rw [ival_itx, decide_eq_false (by omega), show ((n : Int) - (i : Int)).natAbs = n - i by omega] at hm4
    exact hm4
   have HM4 := Lib.hid hm4'; clear hm4 hm4'
   have HI4 := Lib.hid (HI3.out.below hb4)
   have HB4 := Lib.hid (below_then HB3.out HB3.out.size hb4); clear hb4
   go_wp2_with fail
   refine (times_calls bo w3.heap.size false false (ch n i) (n - i) w4 HI4.out HM4.out (lt_BB (L := 11) (by have := HML.out; omega) (by decide)) (by have h1 := nw_two (m := ch n i) (by have := HS1.out; omega); have h2 := nw_two (m := n - i) (by omega); omega)).mono ?_
   rintro e w5 ⟨b5, rfl, hl5, hm5, hb5⟩
   have HM5 := Lib.hid hm5; clear hm5
   have HB5 := Lib.hid (below_then HB4.out HB4.out.size hb5); clear hb5 HI HI3 HI4
   go_wp2_with fail
   refine (C.whole_Of.calls ((i : Int) + 1) _ w5 HO2.out (Aside0.mk (HT.out.below HB5.out))).mono ?_
   rintro e w6 ⟨rfl, hb6⟩
   have HM6 := Lib.hid (HM5.out.below hb6)
   have HB6 := Lib.hid (below_then HB5.out HB5.out.size hb6); clear hb6
   go_wp2_with fail
   refine (read_calls _ HC2.out w6).mono ?_
   rintro e w7 ⟨rfl, hm7, hb7⟩
   have hm7' : Mg w7 w6.heap.size false (i + 1) := by
    rw [ival_itx, decide_eq_false (by omega), show ((i : Int) + 1).natAbs = i + 1 by omega] at hm7
    exact hm7
   have HD7 := Lib.hid hm7'; clear hm7 hm7'
   have HM7 := Lib.hid (HM6.out.below hb7)
   have HB7 := Lib.hid (below_then HB6.out HB6.out.size hb7); clear hb7 HM6 HM5
   go_wp2_with fail
   have hnd := nd_le i (by omega)
   refine (divided_calls b5 w6.heap.size _ false (ch n i * (n - i)) (i + 1) w7 HM7.out HD7.out (Nat.succ_pos i) hnd).mono ?_
   clear hnd
   rintro e w8 ⟨q, r, rfl, hq, hr, hqr, hmq, hmr, hb8⟩
   rw [ch_div (Nat.le_of_lt hin)] at hmq
   have cq := hmq.c1
   have HMQ := Lib.hid hmq; clear hmq hmr
   have HB8 := Lib.hid (below_then HB7.out HB7.out.size hb8); clear hb8
   obtain ⟨z, hz⟩ : ∃ z : Int, z = ((nw (ch n (i + 1)) : Nat) : Int) := ⟨_, rfl⟩
   rw [← hz] at cq
   have hz2 : 0 ≤ z ∧ z ≤ 2 := by omega
   have hz3 : (1033 < z * 9) = False := by rw [eq_iff_iff]; exact ⟨fun h => by omega, False.elim⟩
   clear hz hnw
   obtain ⟨hz4, hz5⟩ := hz2
   have hi30 : (i : Int) ≤ 30 := by omega
   have hi00 : (0 : Int) ≤ (i : Int) := by omega
   have HGI := Lib.hid hgi; have HIN := Lib.hid hin
   clear hw1 hw2 hw3 hMi hin p1 p2 p3 p4 hk hn hgi hMn hqr hq hr hl5
   go_wp2
   go_roundg g
   case measure => omega
   case rel => have hgi := HGI.out; exact ⟨i + 1, q, rfl, by go_num, by omega, HMQ, HB8⟩
end Go.Proofs.YtkdpcgmnkifbbaaGreatDoor
end
section
namespace Go.Proofs.YtkdpcgmnkifbbaaGreatDoor.L
open Go.RowKit Go.Proofs.YtkdpcgmnkifbbaaGreatDoorW.PrintWords Go.Proofs.YtkdpcgmnkifbbaaGreatDoorW.PrintMore
def whole_Check.f (a0 : ByteArray) : Option Int := if a0.size ≤ 9223372036854775807 then some (chk a0) else none
theorem whole_Check.calls (a0 : ByteArray) (r : Int) (w : World) (h : whole_Check.f a0 = some r) :
  Calls Tryz.prog 48 #[.string a0] w fun e w' => e = .returned (.int .i64 r) ∧ Below w.heap.size w w' := by
 unfold whole_Check.f at h
 split at h
 ·rename_i h1; cases h; exact check_calls a0 h1 w
 ·cases h
def whole_all.f (l0 : List ByteArray) : Option Int := if (∀ a ∈ l0, a.size ≤ 9223372036854775807) ∧ l0.length ≤ 4611686018427387904 then some (chks l0) else none
theorem whole_all.calls (A0 : Option Addr) (c0 : Nat) (l0 : List ByteArray) (r : Int) (w : World) (hr0 : Kd.C Kd.string w A0 l0.length l0) (hc0 : l0.length ≤ c0) (h : whole_all.f l0 = some r) :
  Calls Tryz.prog 101 #[.slice A0 l0.length c0] w fun e w' => e = .returned (.int .i64 r) ∧ Below w.heap.size w w' := by
 unfold whole_all.f at h
 split at h
 ·rename_i h1; cases h; exact C.whole_all.calls _ A0 c0 l0 _ w hr0 hc0 (all_f l0 h1.1 h1.2 (l0.length + 3) (Nat.le_refl _))
 ·cases h
def whole_small.f (a0 a1 : ByteArray) : Option (Int × Int × Bool) := if chk a0 = 0 ∧ chk a1 = 0 then some (smallF a0 a1) else none
theorem whole_small.calls (a0 a1 : ByteArray) (r1 r2 : Int) (r3 : Bool) (w : World) (h : whole_small.f a0 a1 = some (r1, r2, r3)) :
  Calls Tryz.prog 114 #[.string a0, .string a1] w fun e w' => e = .returned (.tuple #[.int .i64 r1, .int .i64 r2, .bool r3]) ∧ Below w.heap.size w w' := by
 unfold whole_small.f at h
 split at h
 ·rename_i h1
  have h2 := small_calls a0 a1 w h1.1 h1.2
  unfold SmallPost at h2
  rw [Option.some.inj h] at h2
  exact h2
 ·cases h
def whole_result.f (v : Int) : Option (ByteArray × Int) := if -9223372036854775808 ≤ v ∧ v ≤ 9223372036854775807 then some (kept v) else none
theorem whole_result.calls (a0 : Int) (r1 : ByteArray) (r2 : Int) (w : World) (h : whole_result.f a0 = some (r1, r2)) (HT : Aside0 (Tabs w)) :
  Calls Tryz.prog 115 #[.int .i64 a0] w fun e w' => e = .returned (.tuple #[.string r1, .int .i64 r2]) ∧ Below w.heap.size w w' := by
 unfold whole_result.f at h
 split at h
 ·rename_i h1
  have h2 := C.whole_result.calls a0 _ _ w (result_f a0 h1.1 h1.2) HT
  rw [Option.some.inj h] at h2
  exact h2
 ·cases h
def whole_sum.f (l0 : List ByteArray) : Option (ByteArray × Int) := if (∀ a ∈ l0, chk a = 0) ∧ l0.length ≤ 4096 then some (kept (sumv l0)) else none
theorem whole_sum.calls (A0 : Option Addr) (c0 : Nat) (l0 : List ByteArray) (r1 : ByteArray) (r2 : Int) (w : World) (hr0 : Kd.C Kd.string w A0 l0.length l0) (hc0 : l0.length ≤ c0) (h : whole_sum.f l0 = some (r1, r2)) (HT : Aside0 (Tabs w)) :
  Calls Tryz.prog 116 #[.slice A0 l0.length c0] w fun e w' => e = .returned (.tuple #[.string r1, .int .i64 r2]) ∧ Below w.heap.size w w' := by
 unfold whole_sum.f at h
 split at h
 ·rename_i h1
  have h2 := sum_calls A0 c0 l0 w hr0 hc0 h1.1 h1.2 HT.out
  unfold KeptPost at h2
  rw [Option.some.inj h] at h2
  exact h2
 ·cases h
theorem neg_text (v : Int) : (if v = 0 then itx v else if 0 < v then (⟨#[45]⟩ : ByteArray) ++ itx v else (itx v).extract 1 (itx v).size) = itx (-v) := by
 rcases Int.lt_trichotomy v 0 with h | h | h
 ·rw [if_neg (by omega), if_neg (by omega), Lib.extract_eq, itx_list]
  unfold itx Lib.itoa
  rw [if_pos h, if_neg (by omega), List.drop_one, List.tail_cons, List.take_of_length_le (by rw [Lib.size_eq]; simp)]
  have : v.natAbs = (-v).toNat := by omega
  rw [this]
 ·subst h; rfl
 ·rw [if_neg (by omega), if_pos h]
  unfold itx Lib.itoa
  rw [if_neg (by omega), if_pos (by omega)]
  have : v.toNat = (-v).natAbs := by omega
  rw [this]
  rfl
theorem sign_f {a : ByteArray} (h : chk a = 0) : C.whole_sign.f a = some (if ival a = 0 then 0 else if 0 < ival a then 1 else -1) := by
 unfold C.whole_sign.f
 have h1 := zero_text h
 by_cases h0 : ival a = 0
 ·rw [decide_eq_true h0, beq_iff_eq] at h1
  rw [if_pos h1, if_pos h0]
 ·rw [decide_eq_false h0, beq_eq_false_iff_ne] at h1
  rw [if_neg h1, if_neg h0]
  have hp : 0 < a.size := by
   rw [Lib.size_eq]
   exact Nat.lt_of_lt_of_le (List.length_pos_iff.2 (form_all (chk_form h)).2) (digs_len _)
  rw [if_pos (by omega)]
  have hb : bt a 0 = 45 ↔ ival a < 0 := (bt_head a hp 45).trans (form_head a (chk_form h))
  by_cases hn : 0 < ival a
  ·rw [if_pos hn, if_neg (fun h2 => by have := hb.1 h2; omega)]
  ·rw [if_neg hn, if_pos (hb.2 (by omega))]
def whole_opposite.f (a0 : ByteArray) : Option ByteArray := if chk a0 = 0 ∧ a0.size ≤ 4611686018427387904 then some (itx (-ival a0)) else none
theorem opp_f {a : ByteArray} (h : chk a = 0) (hs : a.size ≤ 4611686018427387904) : C.whole_opposite.f a = some (itx (-ival a)) := by
 unfold C.whole_opposite.f
 rw [sign_f h, Option.bind_some]
 have h1 := (chk_zero h).1
 have h2 := neg_text (ival a)
 rw [← h1] at h2
 have hp : 0 < a.size := by
  rw [Lib.size_eq]
  exact Nat.lt_of_lt_of_le (List.length_pos_iff.2 (form_all (chk_form h)).2) (digs_len _)
 by_cases h0 : ival a = 0
 ·rw [if_pos h0] at h2
  rw [if_pos h0, if_pos rfl]
  exact congrArg some h2
 ·rw [if_neg h0] at h2
  rw [if_neg h0]
  by_cases hn : 0 < ival a
  ·rw [if_pos hn] at h2
   rw [if_pos hn, if_neg (by decide), if_pos rfl, if_pos (by omega), h2]
  ·rw [if_neg hn] at h2
   rw [if_neg hn, if_neg (by decide), if_neg (by decide), if_pos (by omega), h2]
theorem whole_opposite.calls (a0 r : ByteArray) (w : World) (h : whole_opposite.f a0 = some r) :
  Calls Tryz.prog 149 #[.string a0] w fun e w' => e = .returned (.string r) ∧ Below w.heap.size w w' := by
 unfold whole_opposite.f at h
 split at h
 ·rename_i h1
  cases h
  refine (C.whole_opposite.calls a0 _ w (opp_f h1.1 h1.2)).mono ?_
  rintro e w' ⟨rfl, n, rfl⟩
  exact ⟨rfl, pw_below_drewN (Below.refl _ _) n⟩
 ·cases h
def whole_parted.f (a0 a1 : ByteArray) : Option (ByteArray × ByteArray × Int) := if a0.size ≤ 9223372036854775807 ∧ a1.size ≤ 9223372036854775807 then some (partF a0 a1) else none
theorem whole_parted.calls (a0 a1 r1 r2 : ByteArray) (r3 : Int) (w : World) (h : whole_parted.f a0 a1 = some (r1, r2, r3)) (HT : Aside0 (Tabs w)) :
  Calls Tryz.prog 103 #[.string a0, .string a1] w fun e w' => e = .returned (.tuple #[.string r1, .string r2, .int .i64 r3]) ∧ Below w.heap.size w w' := by
 unfold whole_parted.f at h
 split at h
 ·rename_i h1
  have h2 := parted_calls a0 a1 h1.1 h1.2 w HT.out
  unfold PartPost at h2
  rw [Option.some.inj h] at h2
  exact h2
 ·cases h
end Go.Proofs.YtkdpcgmnkifbbaaGreatDoor.L
end
