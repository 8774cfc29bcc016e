/- Joined by a program of this session out of its texts, with only what the last theorem needs: Sm Mu. No conditions but those stated. -/
import Derived.Test.YtkdpcgmnkifbbaaGreatDoorZC18
import Derived.Test.YtkdpcgmnkifbbaaGreatDoorZC08
set_option linter.unusedVariables false
set_option linter.unusedSimpArgs false
namespace Go.Proofs.YtkdpcgmnkifbbaaGreatDoorW.PrintMore
end Go.Proofs.YtkdpcgmnkifbbaaGreatDoorW.PrintMore
namespace Go.Proofs.YtkdpcgmnkifbbaaGreatDoorW.PrintWords
end Go.Proofs.YtkdpcgmnkifbbaaGreatDoorW.PrintWords
section
namespace Go.Proofs.YtkdpcgmnkifbbaaGreatDoor
open Go.RowKit Go.Proofs.YtkdpcgmnkifbbaaGreatDoorW.PrintWords Go.Proofs.YtkdpcgmnkifbbaaGreatDoorW.PrintMore
theorem chk_form {a : ByteArray} (h : chk a = 0) : form a.data.toList = true := by
 unfold chk at h; split at h
 ·assumption
 ·cases h
theorem form_all {l : List UInt8} (h : form l = true) : (digs l).all isDig = true ∧ digs l ≠ [] := by
 have h1 : goodD (digs l) = true := by unfold form at h; rw [Bool.and_eq_true] at h; exact h.1
 unfold goodD at h1
 simp only [Bool.and_eq_true, Bool.not_eq_true', List.isEmpty_eq_false_iff] at h1
 exact ⟨h1.1.2, h1.1.1⟩
theorem atoi_form {a : ByteArray} (h : form a.data.toList = true) : Lib.atoi a.data.toList = some (ival a) := by
 obtain ⟨h1, h2⟩ := form_all h
 unfold ival
 by_cases h45 : a.data.toList.head? = some 45
 ·rw [if_pos h45]
  cases hl : a.data.toList with
  | nil => rw [hl] at h45; cases h45
  | cons c t =>
   rw [hl] at h45 h1 h2
   simp at h45; subst h45
   have e : digs (45 :: t) = t := by simp [digs]
   rw [e] at h1 h2 ⊢
   unfold Lib.atoi Lib.decNat
   cases t with
   | nil => exact absurd rfl h2
   | cons d u =>
    simp only [beq_self_eq_true, if_true, List.isEmpty_cons, Bool.false_eq_true, if_false]
    rw [decFrom_dnat _ h1]; rfl
 ·rw [if_neg h45]
  have e : digs a.data.toList = a.data.toList := by unfold digs; rw [if_neg h45]
  rw [e] at h1 h2 ⊢
  exact atoi_digits h1 h2
def smallF (a b : ByteArray) : Int × Int × Bool := if a.size ≤ 9 ∧ b.size ≤ 9 then (ival a, ival b, true) else (0, 0, false)
def SmallPost (w : World) (a b : ByteArray) (e : Ending) (w' : World) : Prop := e = .returned (.tuple #[.int .i64 (smallF a b).1, .int .i64 (smallF a b).2.1, .bool (smallF a b).2.2]) ∧ Below w.heap.size w w'
theorem small_post_false {w w' : World} {a b : ByteArray} (h : ¬ (a.size ≤ 9 ∧ b.size ≤ 9)) (hb : Below w.heap.size w w') : SmallPost w a b (.returned (.tuple #[.int .i64 0, .int .i64 0, .bool false])) w' := by
 unfold SmallPost smallF; rw [if_neg h]; exact ⟨rfl, hb⟩
theorem small_post_true {w w' : World} {a b : ByteArray} (h : a.size ≤ 9 ∧ b.size ≤ 9) (hb : Below w.heap.size w w') : SmallPost w a b (.returned (.tuple #[.int .i64 (ival a), .int .i64 (ival b), .bool true])) w' := by
 unfold SmallPost smallF; rw [if_pos h]; exact ⟨rfl, hb⟩
set_option maxRecDepth 100000 in
set_option maxHeartbeats 2000000 in
theorem small_calls (a b : ByteArray) (w : World) (ha : chk a = 0) (hb : chk b = 0) :
  Calls Tryz.prog 114 #[.string a, .string b] w (SmallPost w a b) := by
 have haf := atoi_form (chk_form ha)
 have hbf := atoi_form (chk_form hb)
 have HA := Lib.hid haf; clear haf ha
 have HB := Lib.hid hbf; clear hbf hb
 by_cases h1 : (a.size : Int) > 9
 ·go_enter Tryz.func114, Tryz.ntmps114
  go_wp2
  go_ret3
  exact small_post_false (by omega) (by repeat (first | exact Below.refl _ _ | apply Below.drew))
 ·by_cases h2 : (b.size : Int) > 9
  ·go_enter Tryz.func114, Tryz.ntmps114
   go_wp2
   go_ret3
   exact small_post_false (by omega) (by repeat (first | exact Below.refl _ _ | apply Below.drew))
  ·generalize hA : ival a = m at HA
   generalize hB : ival b = n at HB
   have HAV := Lib.hid hA; clear hA
   have HBV := Lib.hid hB; clear hB
   have HSA : Hid (a.size ≤ 9) := Lib.hid (by omega)
   have HSB : Hid (b.size ≤ 9) := Lib.hid (by omega)
   go_enter Tryz.func114, Tryz.ntmps114
   go_wp2_with fail
   refine (atoi_calls a m (by have := HSA.out; omega) HA.out _).mono ?_
   rintro e w1 ⟨rfl, hb1⟩
   have HB1 := Lib.hid hb1; clear hb1
   go_wp2_with fail
   refine (atoi_calls b n (by have := HSB.out; omega) HB.out _).mono ?_
   rintro e w2 ⟨rfl, hb2⟩
   have HB2 := Lib.hid hb2; clear hb2
   go_wp2
   go_ret3
   have := small_post_true (w := w) (w' := w2) ⟨HSA.out, HSB.out⟩ (below_then HB1.out HB1.out.size HB2.out)
   rw [HAV.out, HBV.out] at this
   exact this
def KeptPost (w : World) (v : Int) (e : Ending) (w' : World) : Prop := e = .returned (.tuple #[.string (kept v).1, .int .i64 (kept v).2]) ∧ Below w.heap.size w w'
theorem itx_size (v : Int) (k : Nat) (h : v.natAbs < 10 ^ (k + 1)) : (itx v).size ≤ k + 2 := by
 rw [Lib.size_eq, itx_list]
 have h1 := (dd_le_iff v.natAbs k).2 h
 unfold Lib.itoa
 split
 ·rw [List.length_cons]; omega
 ·rename_i h2
  rw [show v.toNat = v.natAbs by omega]; omega
theorem sg_abs (s : Bool) (m : Nat) : (sg s m).natAbs = m := by unfold sg; split <;> omega
theorem itx_room (v : Int) {m k : Nat} (h : v.natAbs = m) (hm : m < BB ^ k) (hk : k ≤ 1000) : (itx v).size ≤ 9223372036854775807 := by
 rw [← pow9, ← h] at hm
 rcases Nat.eq_zero_or_pos k with h0 | h0
 ·subst h0
  have : v = 0 := by simp at hm; omega
  subst this; rw [itx_zero]; decide
 ·obtain ⟨j, hj⟩ : ∃ j, 9 * k = j + 1 := ⟨9 * k - 1, by omega⟩
  rw [hj] at hm
  have := itx_size v j hm; omega
theorem kept_bad {v : Int} (h : chk (itx v) ≠ 0) : kept v = (⟨#[]⟩, chk (itx v)) := by
 rw [chk_itx] at *
 unfold kept
 by_cases h1 : fits v
 ·rw [if_pos h1] at h; exact absurd rfl h
 ·rw [if_neg h1, if_neg h1]
theorem kept_ok {v : Int} (h : chk (itx v) = 0) : kept v = (itx v, 0) := by
 rw [chk_itx] at h
 unfold kept
 by_cases h1 : fits v
 ·rw [if_pos h1]
 ·rw [if_neg h1] at h; cases h
set_option maxRecDepth 100000 in
set_option maxHeartbeats 2000000 in
theorem limited_calls (b : Nat) (s : Bool) (m : Nat) (w : World) (hx : Mg w b s m) (ht : Tabs w) :
  Calls Tryz.prog 96 #[.pointer (some ⟨b, 0, none⟩)] w (KeptPost w (sg s m)) := by
 have htx := text_calls b s m w hx ht
 have hr := itx_room (sg s m) (sg_abs s m) hx.lt (by decide)
 have HX := Lib.hid htx; clear htx hx ht
 generalize sg s m = v at HX hr ⊢
 have hck : ∀ w : World, Calls Tryz.prog 48 #[.string (itx v)] w fun e w' => e = .returned (.int .i64 (chk (itx v))) ∧ Below w.heap.size w w' := check_calls (itx v) hr
 have HCK := Lib.hid hck; clear hck hr
 by_cases hc : chk (itx v) = 0
 ·have hk := kept_ok hc
  have HK := Lib.hid hk; clear hk
  rw [hc] at HCK
  clear hc
  go_enter Tryz.func96, Tryz.ntmps96
  go_wp2_with fail
  refine HX.out.mono ?_
  rintro e w1 ⟨rfl, hb1⟩
  have HB1 := Lib.hid hb1; clear hb1
  go_wp2_with fail
  refine (HCK.out w1).mono ?_
  rintro e w2 ⟨rfl, hb2⟩
  have HB2 := Lib.hid hb2; clear hb2
  go_wp2
  go_ret2
  exact ⟨by rw [HK.out]; rfl, below_then HB1.out HB1.out.size HB2.out⟩
 ·have hk := kept_bad hc
  have HK := Lib.hid hk; clear hk
  generalize hg : chk (itx v) = c at HCK HK hc
  have HG := Lib.hid hg; clear hg
  have hc2 : (c == 0) = false := beq_eq_false_iff_ne.2 hc
  clear hc
  go_enter Tryz.func96, Tryz.ntmps96
  go_wp2_with fail
  refine HX.out.mono ?_
  rintro e w1 ⟨rfl, hb1⟩
  have HB1 := Lib.hid hb1; clear hb1
  go_wp2_with fail
  refine (HCK.out w1).mono ?_
  rintro e w2 ⟨rfl, hb2⟩
  have HB2 := Lib.hid hb2; clear hb2
  go_wp2
  go_ret2
  exact ⟨by rw [HK.out]; rfl, below_then HB1.out HB1.out.size HB2.out⟩
def sumv (l : List ByteArray) : Int := l.foldl (fun v a => v + ival a) 0
theorem sumv_snoc (l : List ByteArray) (a : ByteArray) : sumv (l ++ [a]) = sumv l + ival a := by simp [sumv]
theorem chk_lt {a : ByteArray} (h : chk a = 0) : (ival a).natAbs < 10 ^ lim := (chk_zero h).2
theorem room_sum {m k i : Nat} (hm : m ≤ i * 10 ^ lim) (hk : k < 10 ^ lim) (hi : i ≤ 4096) : m + k < BB ^ 232 := by
 have key : ∀ (t : Nat) (e : Nat), t = 4 → e + t ≤ 9 * 232 → m ≤ i * 10 ^ e → k < 10 ^ e → m + k < BB ^ 232 := by
  intro t e ht he h1 h2
  have h3 : (i + 1) * 10 ^ e ≤ 10 ^ t * 10 ^ e := Nat.mul_le_mul_right _ (by subst ht; omega)
  rw [← Nat.pow_add, Nat.add_comm t e, Nat.add_mul, Nat.one_mul] at h3
  have h4 : m + k < 10 ^ (e + t) := by omega
  exact lt_BB h4 he
 exact key 4 lim rfl (by decide) hm hk
set_option maxRecDepth 100000 in
set_option maxHeartbeats 4000000 in
theorem sum_calls (A0 : Option Addr) (c0 : Nat) (l : List ByteArray) (w : World) (hr0 : Kd.C Kd.string w A0 l.length l) (hc0 : l.length ≤ c0) (hall : ∀ a ∈ l, chk a = 0) (hn : l.length ≤ 4096) (ht : Tabs w) :
  Calls Tryz.prog 116 #[.slice A0 l.length c0] w (KeptPost w (sumv l)) := by
 have HR0 := Lib.hid hr0; clear hr0
 have HC0 := Lib.hid hc0; clear hc0
 have HT := Lib.hid ht; clear ht
 have HALL := Lib.hid hall; clear hall
 go_enter Tryz.func116, Tryz.ntmps116
 go_wp2
 have hf : Mg (w.alloc (Obj.cells Tryz.zeroCells119 119)) w.heap.size false 0 := Mg.fresh0 w
 have hb1 : Below w.heap.size w (w.alloc (Obj.cells Tryz.zeroCells119 119)) := (Below.refl _ _).alloc (Nat.le_refl _) _
 generalize w.alloc (Obj.cells Tryz.zeroCells119 119) = w1 at hf hb1 ⊢
 have HF := Lib.hid hf; clear hf
 have HB1 := Lib.hid hb1; clear hb1
 go_loopg [11] l.length (fun g v wr => ∃ i : Nat, v = .int .i64 (i : Int) ∧ g + i = l.length ∧ Hid (∃ s m, Mg wr w.heap.size s m ∧ sg s m = sumv (l.take i) ∧ m ≤ i * 10 ^ lim) ∧ Hid (Below w.heap.size w wr))
 case atStart => exact ⟨0, rfl, by omega, Lib.hid ⟨false, 0, HF.out, rfl, Nat.zero_le _⟩, HB1⟩
 case round =>
  obtain ⟨i, rfl, hg, HI, HB⟩ := hrel
  obtain ⟨s, m, hx, hsv, hm⟩ := HI.out
  have HX := Lib.hid hx; clear hx
  have HSV := Lib.hid hsv; clear hsv
  have HM := Lib.hid hm; clear hm
  rcases Nat.eq_zero_or_pos gk with h0 | h0
  ·have hil : (i : Int) = (l.length : Int) := by omega
   have HL : Hid (l.take i = l) := Lib.hid (List.take_of_length_le (by omega))
   go_wp2_with fail
   refine (limited_calls w.heap.size s m wr HX.out (HT.out.below HB.out)).mono ?_
   rintro e w3 ⟨rfl, hb3⟩
   have HB3 := Lib.hid hb3; clear hb3
   go_wp2
   go_ret2
   have e1 := HSV.out
   rw [HL.out] at e1
   exact ⟨by rw [e1]; rfl, below_then HB.out HB.out.size HB3.out⟩
  ·have hil : i < l.length := by omega
   have hil2 : (i : Int) < (l.length : Int) := by omega
   have hi0 : 0 ≤ (i : Int) := by omega
   have hck : chk (rdOf ByteArray.empty l i) = 0 := by
    have e1 : rdOf ByteArray.empty l (i : Int) = l[i] := by simp [rdOf, List.getD, List.getElem?_eq_getElem hil]
    rw [e1]; exact HALL.out _ (List.getElem_mem hil)
   have hsum : sumv (l.take (i + 1)) = sumv (l.take i) + ival (rdOf ByteArray.empty l i) := by
    have e1 : rdOf ByteArray.empty l (i : Int) = l[i] := by simp [rdOf, List.getD, List.getElem?_eq_getElem hil]
    rw [e1, ← sumv_snoc, List.take_append_getElem hil]
   have HSUM := Lib.hid hsum; clear hsum
   have HCK := Lib.hid hck; clear hck
   obtain ⟨ad, ead, hxa⟩ := Kd.at_string HR0.out (i : Int) hi0 hil2
   cases ead
   replace hxa := (HB.out.cell (World.block_lt_of_cell? w _ hxa)).trans hxa
   rw [Int.toNat_natCast] at hxa
   generalize rdOf ByteArray.empty l (i : Int) = a at HSUM HCK hxa
   have hi0' := eq_true hi0
   have hil2' := eq_true hil2
   go_wp2_with fail
   refine (read_calls a HCK.out wr).mono ?_
   rintro e w4 ⟨rfl, hm4, hb4⟩
   have HM4 := Lib.hid hm4; clear hm4
   have HB4 := Lib.hid hb4; clear hb4
   have hbs := HB.out.size
   have hlt := HX.out.blt
   go_wp2_with fail
   refine (plus_calls w.heap.size wr.heap.size s (decide (ival a < 0)) m (ival a).natAbs w4 (HX.out.below HB4.out) HM4.out (by omega) (room_sum HM.out (chk_lt HCK.out) (by omega))).mono ?_
   rintro e w5 ⟨rfl, hm5, hb5⟩
   have HM5 := Lib.hid hm5; clear hm5
   have HB5 := Lib.hid hb5; clear hb5
   go_wp2
   obtain ⟨g', rfl⟩ : ∃ g', gk = g' + 1 := ⟨gk - 1, by omega⟩
   go_roundg g'
   case measure => omega
   case rel => exact ⟨i + 1, by go_num, by omega, Lib.hid (by
     obtain ⟨s', m', h1, h2⟩ := HM5.out
     have e3 : sg (decide (ival a < 0)) (ival a).natAbs = ival a := by unfold sg; by_cases h : ival a < 0 <;> simp [h] <;> omega
     refine ⟨s', m', h1, by rw [h2, HSUM.out, ← HSV.out, e3], ?_⟩
     have e4 := congrArg Int.natAbs h2
     rw [sg_abs, e3] at e4
     have e5 := chk_lt HCK.out
     have e6 := HM.out
     have e7 : (sg s m).natAbs = m := sg_abs s m
     rw [Nat.add_mul, Nat.one_mul]
     omega), Lib.hid (below_gby (below_then HB.out HB.out.size HB4.out) (Nat.le_refl _) (by have := HB4.out.size; omega) HB5.out)⟩
end Go.Proofs.YtkdpcgmnkifbbaaGreatDoor
end
section
namespace Go.Proofs.YtkdpcgmnkifbbaaGreatDoor
open Go.RowKit Go.Proofs.YtkdpcgmnkifbbaaGreatDoorW.PrintWords Go.Proofs.YtkdpcgmnkifbbaaGreatDoorW.PrintMore
def two (a b : ByteArray) (r : ByteArray × Int) : ByteArray × Int := if chk a ≠ 0 then (⟨#[]⟩, chk a) else if chk b ≠ 0 then (⟨#[]⟩, chk b) else r
def TwoPost (w : World) (r : ByteArray × Int) (e : Ending) (w' : World) : Prop := e = .returned (.tuple #[.string r.1, .int .i64 r.2]) ∧ Below w.heap.size w w'
theorem two_bad {a b : ByteArray} {r : ByteArray × Int} (h : chks [a, b] ≠ 0) : two a b r = (⟨#[]⟩, chks [a, b]) := by
 unfold two
 unfold chks chks chks at *
 by_cases h1 : chk a = 0
 ·rw [if_pos h1] at h ⊢
  by_cases h2 : chk b = 0
  ·rw [if_pos h2] at h; exact absurd rfl h
  ·rw [if_neg h2] at h ⊢
   rw [if_neg (fun h => h h1), if_pos h2]
 ·rw [if_neg h1] at h ⊢
  rw [if_pos h1]
theorem chks_two {a b : ByteArray} (h : chks [a, b] = 0) : chk a = 0 ∧ chk b = 0 := by
 unfold chks chks chks at h
 by_cases h1 : chk a = 0
 ·rw [if_pos h1] at h
  by_cases h2 : chk b = 0
  ·exact ⟨h1, h2⟩
  ·rw [if_neg h2] at h; exact absurd h h2
 ·rw [if_neg h1] at h; exact absurd h h1
theorem two_ok {a b : ByteArray} {r : ByteArray × Int} (h : chks [a, b] = 0) : two a b r = r := by
 obtain ⟨h1, h2⟩ := chks_two h
 unfold two
 rw [if_neg (fun h => h h1), if_neg (fun h => h h2)]
theorem all_two (a b : ByteArray) (ha : a.size ≤ 9223372036854775807) (hb : b.size ≤ 9223372036854775807) : C.whole_all.f 5 [a, b] = some (chks [a, b]) :=
 all_f [a, b] (by intro x hx; simp at hx; rcases hx with rfl | rfl <;> assumption) (by simp) 5 (by simp)
theorem short_lt {a : ByteArray} (h : chk a = 0) (h9 : a.size ≤ 9) : -1000000000 < ival a ∧ ival a < 1000000000 := by
 have h1 := form_ival a (chk_form h)
 have h2 := dnat_lt (form_all (chk_form h)).1
 have h3 := digs_len a.data.toList
 rw [← Lib.size_eq] at h3
 have h4 : 10 ^ (digs a.data.toList).length ≤ 10 ^ 9 := Nat.pow_le_pow_right (by decide) (by omega)
 omega
theorem fits_small {v : Int} (h : v.natAbs < 10 ^ 19) : fits v := Nat.lt_of_lt_of_le h (Nat.pow_le_pow_right (by decide) (by decide))
theorem result_f (v : Int) (h0 : -9223372036854775808 ≤ v) (h1 : v ≤ 9223372036854775807) : C.whole_result.f v = some ((kept v).1, (kept v).2) := by
 rw [kept_fits (fits_small (by omega))]
 unfold C.whole_result.f C.whole_Of.f C.strconv_Itoa.f
 rw [if_pos ⟨h0, h1⟩]; rfl
theorem nw_digits {a : ByteArray} (h : chk a = 0) : nw (ival a).natAbs ≤ 114 := by
 have key : ∀ e, e ≤ 9 * 114 → (ival a).natAbs < 10 ^ e → nw (ival a).natAbs ≤ 114 := fun e h1 h2 => nw_le (lt_BB h2 h1)
 exact key lim (by decide) (chk_lt h)
theorem mul_room {a b : ByteArray} (h : chk a = 0) (h2 : chk b = 0) : (ival a).natAbs * (ival b).natAbs < BB ^ 232 := by
 have key : ∀ e, e + e ≤ 9 * 232 → (ival a).natAbs < 10 ^ e → (ival b).natAbs < 10 ^ e → (ival a).natAbs * (ival b).natAbs < BB ^ 232 := by
  intro e he h1 h2
  refine lt_BB (L := e + e) ?_ he
  rw [Nat.pow_add]
  exact Nat.mul_lt_mul'' h1 h2
 exact key lim (by decide) (chk_lt h) (chk_lt h2)
theorem sg_mul (u v : Int) : sg (decide (u < 0) != decide (v < 0)) (u.natAbs * v.natAbs) = u * v := by
 have e1 : ∀ x : Int, x = if x < 0 then -(x.natAbs : Int) else (x.natAbs : Int) := fun x => by split <;> omega
 rw [show u * v = (if u < 0 then -(u.natAbs : Int) else (u.natAbs : Int)) * (if v < 0 then -(v.natAbs : Int) else (v.natAbs : Int)) by rw [← e1 u, ← e1 v]]
 unfold sg
 by_cases h1 : u < 0 <;> by_cases h2 : v < 0 <;> simp [h1, h2, Int.neg_mul, Int.mul_neg]
set_option maxRecDepth 100000 in
set_option maxHeartbeats 4000000 in
theorem mul_calls (a b : ByteArray) (ha : a.size ≤ 9223372036854775807) (hb : b.size ≤ 9223372036854775807) (w : World) (ht : Tabs w) :
  Calls Tryz.prog 78 #[.string a, .string b] w (TwoPost w (two a b (kept (ival a * ival b)))) := by
 have hall := all_two a b ha hb
 have HT := Lib.hid ht; clear ht
 have HAL := Lib.hid hall; clear hall ha hb
 obtain ⟨y, hy⟩ : ∃ y : List ByteArray, y = [a, b] := ⟨_, rfl⟩
 have Ny := Lib.hid hy
 rw [← hy] at HAL
 by_cases hc : chks [a, b] = 0
 ·rw [← hy] at hc
  rw [hc] at HAL
  rw [hy] at hc
  clear hy
  obtain ⟨h1, h2⟩ := chks_two hc
  have htwo := two_ok (r := kept (ival a * ival b)) hc
  rw [htwo]
  clear hc htwo
  have H1 := Lib.hid h1; clear h1
  have H2 := Lib.hid h2; clear h2
  by_cases h9 : a.size ≤ 9 ∧ b.size ≤ 9
  ·have hs : smallF a b = (ival a, ival b, true) := if_pos h9
   have HS := Lib.hid hs; clear hs
   have hm := short_lt H1.out h9.1
   have hn := short_lt H2.out h9.2
   generalize ival a = m at HS hm ⊢
   generalize ival b = n at HS hn ⊢
   clear h9
   have hp : -9223372036854775808 ≤ m * n ∧ m * n ≤ 9223372036854775807 := by
    have h3 : (m * n).natAbs ≤ 1000000000 * 1000000000 := by rw [Int.natAbs_mul]; exact Nat.mul_le_mul (by omega) (by omega)
    omega
   have hwi : IntKind.i64.wrap (m * n) = m * n := by
    have hw : wrap64 (m * n) = m * n := IntWalk.wrap64_in _ hp
    unfold wrap64 at hw
    rw [IntKind.wrap_i64]; exact hw
   have HRF := Lib.hid (result_f (m * n) hp.1 hp.2)
   clear hp hm hn
   go_enter Tryz.func78, Tryz.ntmps78
   go_wp2_with (first | ((with_reducible refine gate_dst (N := 12) rfl ?_); refine Kd.R_lit Kd.string _ 39 ?hg (N := 12) ?hd (xs := ([a, b] : List ByteArray)) (inner := [.string a, .string b]) (ok := fun _ => True) (okp := fun _ => True) ?hr ?hp (fun _ hk => hk) trivial (Below.refl _ _) (Nat.le_refl _) (by simp) ?_; (case hd => rfl); (case hg => rfl); (case hr => first | (go_simp; done) | (go_simp; rfl)); (case hp => exact (Reps.one (show Kd.M Kd.string _ _ _ a [.string a] from rfl) (Reps.one (show Kd.M Kd.string _ _ _ b [.string b] from rfl) (Reps.none _ _)))); intro v1 w1 ho hb1 hg_ hnew_; clear hg_ hnew_; rw [← Ny.out] at ho; have HO := Lib.hid ho; clear ho; have HB1 := Lib.hid hb1; clear hb1; obtain ⟨Ao, co, eo⟩ := Kd.R_slice HO.out; subst eo))
   refine (C.whole_all.calls 5 Ao co y 0 w1 (Kd.R_reads' HO.out).2.2 (Kd.R_reads' HO.out).2.1 HAL.out).mono ?_
   rintro e w2 ⟨rfl, hb2⟩
   have HB2 := Lib.hid (below_then HB1.out HB1.out.size hb2); clear hb2 HO
   go_wp2_with fail
   refine (small_calls a b w2 H1.out H2.out).mono ?_
   rintro e w3 ⟨rfl, hb3⟩
   have HB3 := Lib.hid (below_then HB2.out HB2.out.size hb3); clear hb3
   rw [HS.out]
   go_wp2_with fail
   refine (C.whole_result.calls (m * n) _ _ w3 HRF.out (Aside0.mk (HT.out.below HB3.out))).mono ?_
   rintro e w4 ⟨rfl, hb4⟩
   have HB4 := Lib.hid (below_then HB3.out HB3.out.size hb4); clear hb4
   go_wp2
   go_ret2
   exact ⟨rfl, HB4.out⟩
  ·have hs : smallF a b = (0, 0, false) := if_neg h9
   have HS := Lib.hid hs; clear hs
   clear h9
   go_enter Tryz.func78, Tryz.ntmps78
   go_wp2_with (first | ((with_reducible refine gate_dst (N := 12) rfl ?_); refine Kd.R_lit Kd.string _ 39 ?hg (N := 12) ?hd (xs := ([a, b] : List ByteArray)) (inner := [.string a, .string b]) (ok := fun _ => True) (okp := fun _ => True) ?hr ?hp (fun _ hk => hk) trivial (Below.refl _ _) (Nat.le_refl _) (by simp) ?_; (case hd => rfl); (case hg => rfl); (case hr => first | (go_simp; done) | (go_simp; rfl)); (case hp => exact (Reps.one (show Kd.M Kd.string _ _ _ a [.string a] from rfl) (Reps.one (show Kd.M Kd.string _ _ _ b [.string b] from rfl) (Reps.none _ _)))); intro v1 w1 ho hb1 hg_ hnew_; clear hg_ hnew_; rw [← Ny.out] at ho; have HO := Lib.hid ho; clear ho; have HB1 := Lib.hid hb1; clear hb1; obtain ⟨Ao, co, eo⟩ := Kd.R_slice HO.out; subst eo))
   refine (C.whole_all.calls 5 Ao co y 0 w1 (Kd.R_reads' HO.out).2.2 (Kd.R_reads' HO.out).2.1 HAL.out).mono ?_
   rintro e w2 ⟨rfl, hb2⟩
   have HB2 := Lib.hid (below_then HB1.out HB1.out.size hb2); clear hb2 HO
   go_wp2_with fail
   refine (small_calls a b w2 H1.out H2.out).mono ?_
   rintro e w3 ⟨rfl, hb3⟩
   have HB3 := Lib.hid (below_then HB2.out HB2.out.size hb3); clear hb3
   rw [HS.out]
   go_wp2_with fail
   refine (read_calls a H1.out w3).mono ?_
   rintro e w4 ⟨rfl, hm4, hb4⟩
   have HM4 := Lib.hid hm4; clear hm4
   have HB4 := Lib.hid hb4; clear hb4
   go_wp2_with fail
   refine (read_calls b H2.out w4).mono ?_
   rintro e w5 ⟨rfl, hm5, hb5⟩
   have HM5 := Lib.hid hm5; clear hm5
   have HB5 := Lib.hid hb5; clear hb5
   go_wp2_with fail
   refine (times_calls w3.heap.size w4.heap.size _ _ _ _ w5 (HM4.out.below HB5.out) HM5.out (mul_room H1.out H2.out) (by have := nw_digits H1.out; have := nw_digits H2.out; omega)).mono ?_
   rintro e w6 ⟨g, rfl, hg, hm6, hb6⟩
   have HM6 := Lib.hid hm6; clear hm6
   have HB6 := Lib.hid (below_then (below_then (below_then HB3.out HB3.out.size HB4.out) (Nat.le_trans HB3.out.size HB4.out.size) HB5.out) (Nat.le_trans HB3.out.size (Nat.le_trans HB4.out.size HB5.out.size)) hb6); clear hb6
   go_wp2_with fail
   refine (limited_calls g _ _ w6 HM6.out (HT.out.below HB6.out)).mono ?_
   rintro e w7 ⟨rfl, hb7⟩
   have HB7 := Lib.hid hb7; clear hb7
   go_wp2
   go_ret2
   exact ⟨by rw [sg_mul]; rfl, below_then HB6.out HB6.out.size HB7.out⟩
 ·have htwo := two_bad (r := kept (ival a * ival b)) hc
  rw [htwo]
  rw [show chks y = chks [a, b] by rw [hy]] at HAL
  generalize chks [a, b] = c at HAL hc ⊢
  clear hy htwo
  have hc2 : (c == 0) = false := beq_eq_false_iff_ne.2 hc
  clear hc
  go_enter Tryz.func78, Tryz.ntmps78
  go_wp2_with (first | ((with_reducible refine gate_dst (N := 12) rfl ?_); refine Kd.R_lit Kd.string _ 39 ?hg (N := 12) ?hd (xs := ([a, b] : List ByteArray)) (inner := [.string a, .string b]) (ok := fun _ => True) (okp := fun _ => True) ?hr ?hp (fun _ hk => hk) trivial (Below.refl _ _) (Nat.le_refl _) (by simp) ?_; (case hd => rfl); (case hg => rfl); (case hr => first | (go_simp; done) | (go_simp; rfl)); (case hp => exact (Reps.one (show Kd.M Kd.string _ _ _ a [.string a] from rfl) (Reps.one (show Kd.M Kd.string _ _ _ b [.string b] from rfl) (Reps.none _ _)))); intro v1 w1 ho hb1 hg_ hnew_; clear hg_ hnew_; rw [← Ny.out] at ho; have HO := Lib.hid ho; clear ho; have HB1 := Lib.hid hb1; clear hb1; obtain ⟨Ao, co, eo⟩ := Kd.R_slice HO.out; subst eo))
  refine (C.whole_all.calls 5 Ao co y c w1 (Kd.R_reads' HO.out).2.2 (Kd.R_reads' HO.out).2.1 HAL.out).mono ?_
  rintro e w2 ⟨rfl, hb2⟩
  have HB2 := Lib.hid (below_then HB1.out HB1.out.size hb2); clear hb2 HO
  go_wp2
  go_ret2
  exact ⟨rfl, HB2.out⟩
end Go.Proofs.YtkdpcgmnkifbbaaGreatDoor
end
