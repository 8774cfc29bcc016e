/- Joined by a program of this session out of its texts, with only what the last theorem needs: Pa Gc. No conditions but those stated. -/
import Derived.Test.YtkdpcgmnkifbbaaGreatDoorZC19
import Derived.Test.YtkdpcgmnkifbbaaGreatDoorZC08
set_option linter.unusedVariables false
set_option linter.unusedSimpArgs false
namespace Go.Proofs.YtkdpcgmnkifbbaaGreatDoorW.PrintMore
end Go.Proofs.YtkdpcgmnkifbbaaGreatDoorW.PrintMore
namespace Go.Proofs.YtkdpcgmnkifbbaaGreatDoorW.PrintWords
end Go.Proofs.YtkdpcgmnkifbbaaGreatDoorW.PrintWords
section
namespace Go.Proofs.YtkdpcgmnkifbbaaGreatDoor
open Go.RowKit Go.Proofs.YtkdpcgmnkifbbaaGreatDoorW.PrintWords Go.Proofs.YtkdpcgmnkifbbaaGreatDoorW.PrintMore
theorem fdm_of {a b q r : Int} (hb : b ≠ 0) (h : r + b * q = a) (h1 : 0 < b → 0 ≤ r ∧ r < b) (h2 : b < 0 → b < r ∧ r ≤ 0) : a.fdiv b = q ∧ a.fmod b = r := by
 rcases Int.lt_or_gt_of_ne hb with hn | hp
 ·exact (Int.fdiv_fmod_unique' hn).2 ⟨h, (h2 hn).1, (h2 hn).2⟩
 ·exact (Int.fdiv_fmod_unique hp).2 ⟨h, (h1 hp).1, (h1 hp).2⟩
theorem sg_val (v : Int) : sg (decide (v < 0)) v.natAbs = v := by unfold sg; by_cases h : v < 0 <;> simp [h] <;> omega
theorem part_plain' (m k : Nat) (su sv : Bool) (hk : 0 < k) (h : m % k = 0 ∨ su = sv) :
  (sg su m).fdiv (sg sv k) = sg (su != sv) (m / k) ∧ (sg su m).fmod (sg sv k) = sg su (m % k) := by
 have h1 := Nat.div_add_mod m k
 have h2 := Nat.mod_lt m hk
 generalize m / k = q at *
 generalize m % k = r at *
 have hm : (m : Int) = (k : Int) * q + r := by rw [← h1]; push_cast; rfl
 cases su <;> cases sv <;> simp [sg] at h ⊢ <;> refine fdm_of (by omega) ?_ (by omega) (by omega) <;> (try simp only [Int.neg_mul, Int.mul_neg]) <;> omega
theorem part_turn' (m k : Nat) (su sv : Bool) (hk : 0 < k) (h : 0 < m % k) (hs : su ≠ sv) :
  (sg su m).fdiv (sg sv k) = sg true (m / k) + sg true 1 ∧ (sg su m).fmod (sg sv k) = sg su (m % k) + sg sv k := by
 have h1 := Nat.div_add_mod m k
 have h2 := Nat.mod_lt m hk
 generalize m / k = q at *
 generalize m % k = r at *
 have hm : (m : Int) = (k : Int) * q + r := by rw [← h1]; push_cast; rfl
 cases su <;> cases sv <;> simp [sg] at hs ⊢ <;> refine fdm_of (by omega) ?_ (by omega) (by omega) <;> simp only [Int.neg_mul, Int.mul_neg, Int.mul_add] <;> omega
theorem part_small {m n : Int} (hn : n ≠ 0) : (¬ ((m.tmod n != 0) && ((decide (m.tmod n < 0)) != (decide (n < 0)))) = true → m.fdiv n = m.tdiv n ∧ m.fmod n = m.tmod n) ∧ (((m.tmod n != 0) && ((decide (m.tmod n < 0)) != (decide (n < 0)))) = true → m.fdiv n = m.tdiv n - 1 ∧ m.fmod n = m.tmod n + n) := by
 have h1 := Int.mul_tdiv_add_tmod m n
 have h2 : (m.tmod n).natAbs < n.natAbs := by rw [Int.natAbs_tmod]; exact Nat.mod_lt _ (by omega)
 generalize m.tdiv n = q at *
 generalize m.tmod n = r at *
 refine ⟨fun h => ?_, fun h => ?_⟩
 ·simp at h
  refine fdm_of hn (by omega) ?_ ?_ <;> intro hp <;> (by_cases hr : r = 0 <;> first | omega | (have := h hr; omega))
 ·simp at h
  refine fdm_of hn (by rw [Int.mul_sub, Int.mul_one]; omega) ?_ ?_ <;> intro hp <;> omega
theorem Mg.setless {w : World} {b m : Nat} {s : Bool} (h : Mg w b s m) (t : Bool) : Mg (w.setCell ⟨b, 0, none⟩ (.bool t)) b t m :=
 ⟨h.lt, ⟨by rw [heap_setCell_same _ _ _ _ _ _ h.at_.heap]; simp [wcells], h.at_.len⟩⟩
theorem Mg.drew {w : World} {b m : Nat} {s : Bool} (h : Mg w b s m) : Mg w.drew b s m := ⟨h.lt, h.at_.drew⟩
theorem one_mg (w : World) : Mg ((w.alloc (.cells ((Tryz.zeroCells119.setIfInBounds 0 (.bool true)).setIfInBounds 1 (.int .i64 1)) 119)).setCell ⟨w.heap.size, 2, none⟩ (.int .i64 1)) w.heap.size true 1 := by
 have h1 : Wd (w.alloc (.cells ((Tryz.zeroCells119.setIfInBounds 0 (.bool true)).setIfInBounds 1 (.int .i64 1)) 119)) w.heap.size true 1 (wds 0) := by
  refine ⟨?_, wds_len 0⟩
  rw [show (w.alloc (.cells ((Tryz.zeroCells119.setIfInBounds 0 (.bool true)).setIfInBounds 1 (.int .i64 1)) 119)).heap = w.heap.push (.cells ((Tryz.zeroCells119.setIfInBounds 0 (.bool true)).setIfInBounds 1 (.int .i64 1)) 119) from rfl, Array.getElem?_push_size, zeroWide]
  simp [wcells]
 have h2 := h1.setw 0 1
 have e1 : nw 1 = 1 := by
  have h3 : nw 1 ≤ 1 := nw_le (lt_BB (m := 1) (L := 1) (k := 1) (by decide) (by decide))
  have h4 := nw_succ (show (1 : Nat) ≠ 0 by decide)
  omega
 have e : (wds 0).set 0 1 = wds 1 := by
  refine wds_ext (by rw [List.length_set, wds_len]) 1 (fun j hj => ?_)
  have h0 : ∀ j, wd 0 j = 0 := fun j => wd_zero_of_ge (by rw [nw_zero]; omega)
  rcases Nat.eq_zero_or_pos j with h | h
  ·subst h
   rw [show wd 1 0 = 1 by unfold wd; rw [Nat.pow_zero, Nat.div_one]; exact Nat.mod_eq_of_lt (by decide)]
   simp [List.getD, List.getElem?_set, wds_len]
  ·rw [wd_zero_of_ge (by omega)]
   have h5 := wds_get 0 j hj
   rw [h0 j] at h5
   simp only [List.getD, List.getElem?_set] at h5 ⊢
   rw [if_neg (by omega)]; exact h5
 rw [e] at h2
 refine ⟨?_, by rw [e1]; exact h2⟩
 exact lt_BB (L := 1) (by decide) (by decide)
theorem one_lim : 1 < 10 ^ lim := Nat.one_lt_pow (by decide) (by decide)
theorem one_cells (w : World) : (w.alloc (.cells ((Tryz.zeroCells119.setIfInBounds 0 (.bool true)).setIfInBounds 1 (.int .i64 1)) 119)).cell? ⟨w.heap.size, 2, none⟩ = some (.int .i64 0) ∧ (w.alloc (.cells ((Tryz.zeroCells119.setIfInBounds 0 (.bool true)).setIfInBounds 1 (.int .i64 1)) 119)).frozen? ⟨w.heap.size, 2, none⟩ = false := by
 have h1 : Wd (w.alloc (.cells ((Tryz.zeroCells119.setIfInBounds 0 (.bool true)).setIfInBounds 1 (.int .i64 1)) 119)) w.heap.size true 1 (wds 0) := by
  refine ⟨?_, wds_len 0⟩
  rw [show (w.alloc (.cells ((Tryz.zeroCells119.setIfInBounds 0 (.bool true)).setIfInBounds 1 (.int .i64 1)) 119)).heap = w.heap.push (.cells ((Tryz.zeroCells119.setIfInBounds 0 (.bool true)).setIfInBounds 1 (.int .i64 1)) 119) from rfl, Array.getElem?_push_size, zeroWide]
  simp [wcells]
 refine ⟨?_, h1.fz 2⟩
 have h2 := h1.cw 0 (by decide)
 rw [wds_get 0 0 (by decide), wd_zero_of_ge (by rw [nw_zero]; omega)] at h2
 exact h2
theorem one_mg' (w : World) {k : Nat} (hk : k = w.heap.size) : Mg (w.alloc (.cells (((Tryz.zeroCells119.setIfInBounds 0 (.bool true)).setIfInBounds 1 (.int .i64 1)).setIfInBounds 2 (.int .i64 1)) 119)) k true 1 := by
 subst hk
 have h := one_mg w
 have e : ((w.alloc (.cells ((Tryz.zeroCells119.setIfInBounds 0 (.bool true)).setIfInBounds 1 (.int .i64 1)) 119)).setCell ⟨w.heap.size, 2, none⟩ (.int .i64 1)).heap[w.heap.size]? = (w.alloc (.cells (((Tryz.zeroCells119.setIfInBounds 0 (.bool true)).setIfInBounds 1 (.int .i64 1)).setIfInBounds 2 (.int .i64 1)) 119)).heap[w.heap.size]? := by
  rw [heap_setCell_same _ _ _ _ _ _ (heap_alloc_last w _)]
  rw [show (w.alloc (.cells (((Tryz.zeroCells119.setIfInBounds 0 (.bool true)).setIfInBounds 1 (.int .i64 1)).setIfInBounds 2 (.int .i64 1)) 119)).heap = w.heap.push _ from rfl, Array.getElem?_push_size]
 exact ⟨h.lt, ⟨e.symm.trans h.at_.heap, h.at_.len⟩⟩
theorem size_setCell (w : World) (b j : Nat) (v : Value) : (w.setCell ⟨b, j, none⟩ v).heap.size = w.heap.size := by simp [World.setCell]
def partF (a b : ByteArray) : ByteArray × ByteArray × Int := if chks [a, b] ≠ 0 then (⟨#[]⟩, ⟨#[]⟩, chks [a, b]) else if ival b = 0 then (⟨#[]⟩, ⟨#[]⟩, 10) else (itx ((ival a).fdiv (ival b)), itx ((ival a).fmod (ival b)), 0)
def PartPost (w : World) (r : ByteArray × ByteArray × Int) (e : Ending) (w' : World) : Prop := e = .returned (.tuple #[.string r.1, .string r.2.1, .int .i64 r.2.2]) ∧ Below w.heap.size w w'
theorem of_f (v : Int) (h0 : -9223372036854775808 ≤ v) (h1 : v ≤ 9223372036854775807) : C.whole_Of.f v = some (itx v) := by
 unfold C.whole_Of.f C.strconv_Itoa.f
 rw [if_pos ⟨h0, h1⟩]; rfl
theorem zero_text {b : ByteArray} (h : chk b = 0) : (b.toList == ([48] : List UInt8)) = decide (ival b = 0) := by
 have h1 := (chk_zero h).1
 rw [Bool.eq_iff_iff, beq_iff_eq, decide_eq_true_iff]
 constructor
 ·intro h2
  have h3 : b = itx 0 := by
   rw [itx_zero, ← Lib.mk_data b, ← Lib.toList_data, h2]
  rw [h3, ival_itx]
 ·intro h2
  rw [h1, h2, itx_zero, Lib.toList_data]
theorem tdiv_small {m n : Int} (hm : -1000000000 < m ∧ m < 1000000000) : -1000000000 < m.tdiv n ∧ m.tdiv n < 1000000000 := by
 have h1 : (m.tdiv n).natAbs ≤ m.natAbs := by rw [Int.natAbs_tdiv]; exact Nat.div_le_self _ _
 omega
theorem tmod_small {m n : Int} (hm : -1000000000 < m ∧ m < 1000000000) : -1000000000 < m.tmod n ∧ m.tmod n < 1000000000 := by
 have h1 : (m.tmod n).natAbs ≤ m.natAbs := by rw [Int.natAbs_tmod]; exact Nat.mod_le _ _
 omega
set_option maxRecDepth 100000 in
set_option maxHeartbeats 8000000 in
theorem parted_small (a b : ByteArray) (w : World) (h1 : chk a = 0) (h2 : chk b = 0) (hnz : ival b ≠ 0) (h9 : a.size ≤ 9 ∧ b.size ≤ 9) (hall : C.whole_all.f 5 [a, b] = some 0) (ht : Tabs w) :
  Calls Tryz.prog 103 #[.string a, .string b] w (PartPost w (itx ((ival a).fdiv (ival b)), itx ((ival a).fmod (ival b)), 0)) := by
 have HT := Lib.hid ht; clear ht
 obtain ⟨y, hy⟩ : ∃ y : List ByteArray, y = [a, b] := ⟨_, rfl⟩
 have Ny := Lib.hid hy
 rw [← hy] at hall
 have HAL := Lib.hid hall; clear hall hy
 have hb0 := zero_text h2
 rw [decide_eq_false hnz] at hb0
 have H1 := Lib.hid h1; clear h1
 have H2 := Lib.hid h2; clear h2
 have hs : smallF a b = (ival a, ival b, true) := if_pos h9
 have HS := Lib.hid hs; clear hs
 have hm := short_lt H1.out h9.1
 have hn := short_lt H2.out h9.2
 generalize ival a = m at HS hm ⊢
 generalize ival b = n at HS hn hnz ⊢
 clear h9
 have hps := part_small (m := m) hnz
 have hq := tdiv_small (n := n) hm
 have hr := tmod_small (n := n) hm
 have HPS := Lib.hid hps; clear hps
 have hnb : (n == 0) = false := beq_eq_false_iff_ne.2 hnz
 have hwq : IntKind.i64.wrap (m.tdiv n) = m.tdiv n := by rw [IntKind.wrap_i64]; omega
 clear hm
 go_enter Tryz.func103, Tryz.ntmps103
 go_wp2_with (first | ((with_reducible refine gate_dst (N := 20) rfl ?_); refine Kd.R_lit Kd.string _ 39 ?hg (N := 20) ?hd (xs := ([a, b] : List ByteArray)) (inner := [.string a, .string b]) (ok := fun _ => True) (okp := fun _ => True) ?hr ?hp (fun _ hk => hk) trivial (Below.refl _ _) (Nat.le_refl _) (by simp) ?_; (case hd => rfl); (case hg => rfl); (case hr => first | (go_simp; done) | (go_simp; rfl)); (case hp => exact (Reps.one (show Kd.M Kd.string _ _ _ a [.string a] from rfl) (Reps.one (show Kd.M Kd.string _ _ _ b [.string b] from rfl) (Reps.none _ _)))); intro v1 w1 ho hb1 hg_ hnew_; clear hg_ hnew_; rw [← Ny.out] at ho; have HO := Lib.hid ho; clear ho; have HB1 := Lib.hid hb1; clear hb1; obtain ⟨Ao, co, eo⟩ := Kd.R_slice HO.out; subst eo))
 refine (C.whole_all.calls 5 Ao co y 0 w1 (Kd.R_reads' HO.out).2.2 (Kd.R_reads' HO.out).2.1 HAL.out).mono ?_
 rintro e w2 ⟨rfl, hb2⟩
 have HB2 := Lib.hid (below_then HB1.out HB1.out.size hb2); clear hb2 HO
 go_wp2_with fail
 refine (small_calls a b w2 H1.out H2.out).mono ?_
 rintro e w3 ⟨rfl, hb3⟩
 have HB3 := Lib.hid (below_then HB2.out HB2.out.size hb3); clear hb3
 rw [HS.out]
 go_wp2_with fail
 go_region
 clear hnz hnb
 generalize m.tdiv n = q at HPS hq ⊢
 generalize m.tmod n = r at HPS hr ⊢
 clear hwq
 by_cases hr0 : r = 0
 ·have hr1 : (r == 0) = true := beq_iff_eq.2 hr0
  have hr2 : (r != 0) = false := by rw [bne, hr1]; rfl
  obtain ⟨e1, e2⟩ := HPS.out.1 (by rw [hr2]; simp)
  clear hr0
  have HOQ := Lib.hid (of_f q (by omega) (by omega))
  have HOR := Lib.hid (of_f r (by omega) (by omega))
  have E1 := Lib.hid e1; clear e1
  have E2 := Lib.hid e2; clear e2
  clear hq hr hn
  go_wp2_with fail
  refine (C.whole_Of.calls q (itx q) w3.drew HOQ.out (Aside0.mk (HT.out.below (Below.drew HB3.out)))).mono ?_
  rintro e w4 ⟨rfl, hb4⟩
  have HB4 := Lib.hid (below_then (Below.drew HB3.out) (Below.drew HB3.out).size hb4); clear hb4
  go_wp2_with fail
  refine (C.whole_Of.calls r (itx r) w4 HOR.out (Aside0.mk (HT.out.below HB4.out))).mono ?_
  rintro e w5 ⟨rfl, hb5⟩
  have HB5 := Lib.hid (below_then HB4.out HB4.out.size hb5); clear hb5
  go_wp2
  go_ret3
  exact ⟨by rw [E1.out, E2.out]; rfl, HB5.out⟩
 ·have hr1 : (r == 0) = false := beq_eq_false_iff_ne.2 hr0
  have hr2 : (r != 0) = true := by rw [bne, hr1]; rfl
  clear hr0
  by_cases hsg : decide (r < 0) = decide (n < 0)
  ·have hsg2 : (decide (r < 0) != decide (n < 0)) = false := by rw [hsg]; simp
   have hsg3 : (decide (r < 0) == decide (n < 0)) = true := by rw [hsg]; simp
   obtain ⟨e1, e2⟩ := HPS.out.1 (by rw [hsg2]; simp)
   clear hsg
   have HOQ := Lib.hid (of_f q (by omega) (by omega))
   have HOR := Lib.hid (of_f r (by omega) (by omega))
   have E1 := Lib.hid e1; clear e1
   have E2 := Lib.hid e2; clear e2
   clear hq hr hn
   go_wp2_with fail
   refine (C.whole_Of.calls q (itx q) w3.drew HOQ.out (Aside0.mk (HT.out.below (Below.drew HB3.out)))).mono ?_
   rintro e w4 ⟨rfl, hb4⟩
   have HB4 := Lib.hid (below_then (Below.drew HB3.out) (Below.drew HB3.out).size hb4); clear hb4
   go_wp2_with fail
   refine (C.whole_Of.calls r (itx r) w4 HOR.out (Aside0.mk (HT.out.below HB4.out))).mono ?_
   rintro e w5 ⟨rfl, hb5⟩
   have HB5 := Lib.hid (below_then HB4.out HB4.out.size hb5); clear hb5
   go_wp2
   go_ret3
   exact ⟨by rw [E1.out, E2.out]; rfl, HB5.out⟩
  ·have hsg3 : (decide (r < 0) == decide (n < 0)) = false := beq_eq_false_iff_ne.2 hsg
   have hsg2 : (decide (r < 0) != decide (n < 0)) = true := by rw [bne, hsg3]; rfl
   obtain ⟨e1, e2⟩ := HPS.out.2 (by rw [hsg2, hr2]; rfl)
   clear hsg
   have HOQ := Lib.hid (of_f (q - 1) (by omega) (by omega))
   have HOR := Lib.hid (of_f (r + n) (by omega) (by omega))
   have hw1 : IntKind.i64.wrap (q - 1) = q - 1 := by rw [IntKind.wrap_i64]; omega
   have hw2 : IntKind.i64.wrap (r + n) = r + n := by rw [IntKind.wrap_i64]; omega
   have E1 := Lib.hid e1; clear e1
   have E2 := Lib.hid e2; clear e2
   go_wp2_with fail
   refine (C.whole_Of.calls (q - 1) (itx (q - 1)) w3.drew HOQ.out (Aside0.mk (HT.out.below (Below.drew HB3.out)))).mono ?_
   rintro e w4 ⟨rfl, hb4⟩
   have HB4 := Lib.hid (below_then (Below.drew HB3.out) (Below.drew HB3.out).size hb4); clear hb4
   go_wp2_with fail
   refine (C.whole_Of.calls (r + n) (itx (r + n)) w4 HOR.out (Aside0.mk (HT.out.below HB4.out))).mono ?_
   rintro e w5 ⟨rfl, hb5⟩
   have HB5 := Lib.hid (below_then HB4.out HB4.out.size hb5); clear hb5
   go_wp2
   go_ret3
   exact ⟨by rw [E1.out, E2.out]; rfl, HB5.out⟩
set_option maxRecDepth 100000 in
set_option maxHeartbeats 8000000 in
theorem parted_big (a b : ByteArray) (w : World) (h1 : chk a = 0) (h2 : chk b = 0) (hnz : ival b ≠ 0) (h9 : ¬ (a.size ≤ 9 ∧ b.size ≤ 9)) (hall : C.whole_all.f 5 [a, b] = some 0) (ht : Tabs w) :
  Calls Tryz.prog 103 #[.string a, .string b] w (PartPost w (itx ((ival a).fdiv (ival b)), itx ((ival a).fmod (ival b)), 0)) := by
 have HT := Lib.hid ht; clear ht
 obtain ⟨y, hy⟩ : ∃ y : List ByteArray, y = [a, b] := ⟨_, rfl⟩
 have Ny := Lib.hid hy
 rw [← hy] at hall
 have HAL := Lib.hid hall; clear hall hy
 have hb0 := zero_text h2
 rw [decide_eq_false hnz] at hb0
 have H1 := Lib.hid h1; clear h1
 have H2 := Lib.hid h2; clear h2
 have hs : smallF a b = (0, 0, false) := if_neg h9
 have HS := Lib.hid hs; clear hs h9
 have HNZ : Hid (0 < (ival b).natAbs) := Lib.hid (by omega)
 clear hnz
 go_enter Tryz.func103, Tryz.ntmps103
 go_wp2_with (first | ((with_reducible refine gate_dst (N := 20) rfl ?_); refine Kd.R_lit Kd.string _ 39 ?hg (N := 20) ?hd (xs := ([a, b] : List ByteArray)) (inner := [.string a, .string b]) (ok := fun _ => True) (okp := fun _ => True) ?hr ?hp (fun _ hk => hk) trivial (Below.refl _ _) (Nat.le_refl _) (by simp) ?_; (case hd => rfl); (case hg => rfl); (case hr => first | (go_simp; done) | (go_simp; rfl)); (case hp => exact (Reps.one (show Kd.M Kd.string _ _ _ a [.string a] from rfl) (Reps.one (show Kd.M Kd.string _ _ _ b [.string b] from rfl) (Reps.none _ _)))); intro v1 w1 ho hb1 hg_ hnew_; clear hg_ hnew_; rw [← Ny.out] at ho; have HO := Lib.hid ho; clear ho; have HB1 := Lib.hid hb1; clear hb1; obtain ⟨Ao, co, eo⟩ := Kd.R_slice HO.out; subst eo))
 refine (C.whole_all.calls 5 Ao co y 0 w1 (Kd.R_reads' HO.out).2.2 (Kd.R_reads' HO.out).2.1 HAL.out).mono ?_
 rintro e w2 ⟨rfl, hb2⟩
 have HB2 := Lib.hid (below_then HB1.out HB1.out.size hb2); clear hb2 HO
 go_wp2_with fail
 refine (small_calls a b w2 H1.out H2.out).mono ?_
 rintro e w3 ⟨rfl, hb3⟩
 have HB3 := Lib.hid (below_then HB2.out HB2.out.size hb3); clear hb3
 rw [HS.out]
 go_wp2_with fail
 refine (read_calls a H1.out w3).mono ?_
 rintro e w4 ⟨rfl, hm4, hb4⟩
 have HM4 := Lib.hid hm4; clear hm4
 have HB4 := Lib.hid (below_then HB3.out HB3.out.size hb4); have HB4a := Lib.hid hb4; clear hb4
 go_wp2_with fail
 refine (read_calls b H2.out w4).mono ?_
 rintro e w5 ⟨rfl, hm5, hb5⟩
 have HM5 := Lib.hid hm5; clear hm5
 have HM4' := Lib.hid (HM4.out.below hb5); clear HM4
 have HB5 := Lib.hid (below_then HB4.out HB4.out.size hb5); have HB5a := Lib.hid hb5; clear hb5
 go_wp2_with fail
 refine (divided_calls w3.heap.size w4.heap.size _ _ _ _ w5 HM4'.out HM5.out HNZ.out (by have := nw_digits H2.out; omega)).mono ?_
 rintro e w6 ⟨q, r, rfl, hq, hr, hqr, hmq, hmr, hb6⟩
 have HMQ := Lib.hid hmq; clear hmq
 have HMR := Lib.hid hmr; clear hmr
 have HX6 := Lib.hid (HM4'.out.below hb6)
 have HY6 := Lib.hid (HM5.out.below hb6)
 have HB6 := Lib.hid (below_then HB5.out HB5.out.size hb6); clear hb6
 have hl4 : w3.heap.size < w5.heap.size := HM4'.out.blt
 have hl5 : w4.heap.size < w5.heap.size := HM5.out.blt
 have hxq : ¬ w3.heap.size = q := by omega
 have hxr : ¬ w3.heap.size = r := by omega
 have hyq : ¬ w4.heap.size = q := by omega
 have hyr : ¬ w4.heap.size = r := by omega
 have cx := HX6.out.c0
 have cy := HY6.out.c0
 have cq := HMQ.out.c0
 have cr := HMR.out.c0
 have fq := HMQ.out.at_.fz 0
 have fr := HMR.out.at_.fz 0
 generalize w3.heap.size = x at *
 generalize w4.heap.size = z at *
 generalize hsx : decide (ival a < 0) = sx at *
 generalize hsy : decide (ival b < 0) = sy at *
 have HSX := Lib.hid hsx; clear hsx
 have HSY := Lib.hid hsy; clear hsy
 go_wp2_with fail
 go_region
 have mq7 : Mg ((w6.setCell ⟨q, 0, none⟩ (Value.bool !sx == sy)).setCell ⟨r, 0, none⟩ (Value.bool sx)).drew q (!sx == sy) ((ival a).natAbs / (ival b).natAbs) := ((HMQ.out.setless _).other hqr 0 _).drew
 have mr7 : Mg ((w6.setCell ⟨q, 0, none⟩ (Value.bool !sx == sy)).setCell ⟨r, 0, none⟩ (Value.bool sx)).drew r sx ((ival a).natAbs % (ival b).natAbs) := ((HMR.out.other (Ne.symm hqr) 0 _).setless _).drew
 have mx7 : Mg ((w6.setCell ⟨q, 0, none⟩ (Value.bool !sx == sy)).setCell ⟨r, 0, none⟩ (Value.bool sx)).drew x sx (ival a).natAbs := ((HX6.out.other hxq 0 _).other hxr 0 _).drew
 have mz7 : Mg ((w6.setCell ⟨q, 0, none⟩ (Value.bool !sx == sy)).setCell ⟨r, 0, none⟩ (Value.bool sx)).drew z sy (ival b).natAbs := ((HY6.out.other hyq 0 _).other hyr 0 _).drew
 have hw35 := HB5.out.size
 have hb7 : Below w.heap.size w ((w6.setCell ⟨q, 0, none⟩ (Value.bool !sx == sy)).setCell ⟨r, 0, none⟩ (Value.bool sx)).drew := (below_set (below_set HB6.out (by omega) _ _) (by omega) _ _).drew
 generalize ((w6.setCell ⟨q, 0, none⟩ (Value.bool !sx == sy)).setCell ⟨r, 0, none⟩ (Value.bool sx)).drew = w7 at mq7 mr7 mx7 mz7 hb7 ⊢
 have MQ7 := Lib.hid mq7; clear mq7 HMQ
 have MZ7 := Lib.hid mz7; clear mz7 HY6
 clear cx cy cq cr fq fr HMR HX6
 have cx := mx7.c0
 have cy := MZ7.out.c0
 have cr := mr7.c1
 have MR7 := Lib.hid mr7; clear mr7
 clear mx7
 have HB7 := Lib.hid hb7; clear hb7
 have HU := Lib.hid (sg_val (ival a))
 have HV := Lib.hid (sg_val (ival b))
 rw [HSX.out] at HU
 rw [HSY.out] at HV
 by_cases hR : (ival a).natAbs % (ival b).natAbs = 0 ∨ sx = sy
 ·have hp := part_plain' (ival a).natAbs (ival b).natAbs sx sy HNZ.out hR
  rw [HU.out, HV.out, show (sx != sy) = (!sx == sy) from rfl] at hp
  have HP := Lib.hid hp; clear hp
  by_cases hR0 : (ival a).natAbs % (ival b).natAbs = 0
  ·rw [hR0, nw_zero] at cr
   clear hR hR0
   go_wp2_with fail
   go_quiet (fail)
   obtain ⟨w8, hw8⟩ : ∃ w8, w8 = w7.drewN nq := ⟨_, rfl⟩
   rw [← hw8]
   have MQ8 := Lib.hid (hw8 ▸ MQ7.out.drewN nq)
   have MR8 := Lib.hid (hw8 ▸ MR7.out.drewN nq)
   have MZ8 := Lib.hid (hw8 ▸ MZ7.out.drewN nq)
   have HB8 := Lib.hid (hw8 ▸ pw_below_drewN HB7.out nq)
   clear hw8 cx cy cr
   go_wp2_with fail
   refine (text_calls q _ _ w8 MQ8.out (HT.out.below HB8.out)).mono ?_
   rintro e w9 ⟨rfl, hb9⟩
   have MR9 := Lib.hid (MR8.out.below hb9)
   have HB9 := Lib.hid (below_then HB8.out HB8.out.size hb9); clear hb9
   go_wp2_with fail
   refine (text_calls r _ _ w9 MR9.out (HT.out.below HB9.out)).mono ?_
   rintro e w10 ⟨rfl, hb10⟩
   have HB10 := Lib.hid (below_then HB9.out HB9.out.size hb10); clear hb10
   go_wp2
   go_ret3
   exact ⟨by rw [HP.out.1, HP.out.2]; first | rfl | (simp only [hss, Bool.not_true]; rfl), HB10.out⟩
  ·have hss : (sx == sy) = true := by rw [hR.resolve_left hR0]; simp
   have hnr : ((nw ((ival a).natAbs % (ival b).natAbs) : Nat) : Int) > 0 := by have := nw_succ hR0; omega
   generalize nw ((ival a).natAbs % (ival b).natAbs) = nr at cr hnr
   have hn1 : decide ((nr : Int) > 0) = true := decide_eq_true hnr
   have hn2 : (0 < nr) = True := eq_true (by omega)
   have hn3 : ((0 : Int) < (nr : Int)) = True := eq_true hnr
   have hn4 : decide (0 < nr) = true := decide_eq_true (by omega)
   clear hR
   go_wp2_with fail
   go_quiet (fail)
   obtain ⟨w8, hw8⟩ : ∃ w8, w8 = w7.drewN nq := ⟨_, rfl⟩
   rw [← hw8]
   have MQ8 := Lib.hid (hw8 ▸ MQ7.out.drewN nq)
   have MR8 := Lib.hid (hw8 ▸ MR7.out.drewN nq)
   have MZ8 := Lib.hid (hw8 ▸ MZ7.out.drewN nq)
   have HB8 := Lib.hid (hw8 ▸ pw_below_drewN HB7.out nq)
   clear hw8 cx cy cr
   go_wp2_with fail
   refine (text_calls q _ _ w8 MQ8.out (HT.out.below HB8.out)).mono ?_
   rintro e w9 ⟨rfl, hb9⟩
   have MR9 := Lib.hid (MR8.out.below hb9)
   have HB9 := Lib.hid (below_then HB8.out HB8.out.size hb9); clear hb9
   go_wp2_with fail
   refine (text_calls r _ _ w9 MR9.out (HT.out.below HB9.out)).mono ?_
   rintro e w10 ⟨rfl, hb10⟩
   have HB10 := Lib.hid (below_then HB9.out HB9.out.size hb10); clear hb10
   go_wp2
   go_ret3
   exact ⟨by rw [HP.out.1, HP.out.2]; first | rfl | (simp only [hss, Bool.not_true]; rfl), HB10.out⟩
 ·have hss : (sx == sy) = false := beq_eq_false_iff_ne.2 (fun h => hR (.inr h))
  have hR0 : ¬ (ival a).natAbs % (ival b).natAbs = 0 := fun h => hR (.inl h)
  have hnr : ((nw ((ival a).natAbs % (ival b).natAbs) : Nat) : Int) > 0 := by have := nw_succ hR0; omega
  have hp := part_turn' (ival a).natAbs (ival b).natAbs sx sy HNZ.out (by omega) (fun h => hR (.inr h))
  rw [HU.out, HV.out] at hp
  have HP := Lib.hid hp; clear hp
  generalize nw ((ival a).natAbs % (ival b).natAbs) = nr at cr hnr
  have hn1 : decide ((nr : Int) > 0) = true := decide_eq_true hnr
  have hn2 : (0 < nr) = True := eq_true (by omega)
  have hn3 : ((0 : Int) < (nr : Int)) = True := eq_true hnr
  have hn4 : decide (0 < nr) = true := decide_eq_true (by omega)
  clear hR
  go_wp2_with fail
  go_quiet (fail)
  obtain ⟨w8, hw8⟩ : ∃ w8, w8 = w7.drewN nq := ⟨_, rfl⟩
  rw [← hw8]
  have MQ8 := Lib.hid (hw8 ▸ MQ7.out.drewN nq)
  have MR8 := Lib.hid (hw8 ▸ MR7.out.drewN nq)
  have MZ8 := Lib.hid (hw8 ▸ MZ7.out.drewN nq)
  have HB8 := Lib.hid (hw8 ▸ pw_below_drewN HB7.out nq)
  clear hw8 cx cy cr
  have hnq := w7.heap.size
  have hql := MQ8.out.blt
  have hrl := MR8.out.blt
  have hzl := MZ8.out.blt
  obtain ⟨k1, k2⟩ := one_cells w8
  have k5 := MQ8.out.c0
  have k6 := MQ8.out.at_.fz 0
  have hw08 := HB8.out.size
  go_wp2_with fail
  have mq10 := (MQ8.out.setless true).alloc (.cells (((Tryz.zeroCells119.setIfInBounds 0 (.bool true)).setIfInBounds 1 (.int .i64 1)).setIfInBounds 2 (.int .i64 1)) 119)
  have mo10 := one_mg' (w8.setCell ⟨q, 0, none⟩ (.bool true)) (size_setCell _ _ _ _).symm
  have mr10 := (MR8.out.other (c := q) (Ne.symm hqr) 0 (.bool true)).alloc (.cells (((Tryz.zeroCells119.setIfInBounds 0 (.bool true)).setIfInBounds 1 (.int .i64 1)).setIfInBounds 2 (.int .i64 1)) 119)
  have mz10 := (MZ8.out.other (c := q) hyq 0 (.bool true)).alloc (.cells (((Tryz.zeroCells119.setIfInBounds 0 (.bool true)).setIfInBounds 1 (.int .i64 1)).setIfInBounds 2 (.int .i64 1)) 119)
  have hb10 := (below_set HB8.out (b := q) (by omega) 0 (.bool true)).alloc (by rw [size_setCell]; omega) (.cells (((Tryz.zeroCells119.setIfInBounds 0 (.bool true)).setIfInBounds 1 (.int .i64 1)).setIfInBounds 2 (.int .i64 1)) 119)
  refine (plus_calls q w8.heap.size true true _ 1 _ mq10 mo10 (by omega) (room_sum (i := 1) (by rw [Nat.one_mul]; exact Nat.le_trans (Nat.div_le_self _ _) (Nat.le_of_lt (chk_lt H1.out))) one_lim (by decide))).mono ?_
  rintro e w11 ⟨rfl, hq11, hg11⟩
  have mr11 := mr10.grown hg11 (by simpa using Ne.symm hqr)
  have mz11 := mz10.grown hg11 (by simpa using hyq)
  have hb11 := below_gby hb10 (by omega) hb10.size hg11
  clear mq10 mo10 mr10 mz10 hb10 hg11 k1 k2 k5 k6
  have HQ11 := Lib.hid hq11; clear hq11
  have MR11 := Lib.hid mr11; clear mr11
  have MZ11 := Lib.hid mz11; clear mz11
  have HB11 := Lib.hid hb11; clear hb11
  go_wp2_with fail
  refine (plus_calls r z sx sy _ _ w11 MR11.out MZ11.out hyr (room_sum (i := 1) (by rw [Nat.one_mul]; exact Nat.le_trans (Nat.mod_le _ _) (Nat.le_of_lt (chk_lt H1.out))) (chk_lt H2.out) (by decide))).mono ?_
  rintro e w12 ⟨rfl, hr12, hg12⟩
  obtain ⟨sq, nq2, hmq, hsq⟩ := HQ11.out
  obtain ⟨sr, nr2, hmr, hsr⟩ := hr12
  have MQ8 := Lib.hid (hmq.grown hg12 (by simpa using hqr))
  have MR8 := Lib.hid hmr
  have HB8 := Lib.hid (below_gby HB11.out (by omega) HB11.out.size hg12)
  have hp2 := HP.out
  rw [HV.out] at hsr
  rw [← hsq, ← hsr] at hp2
  have HP := Lib.hid hp2; clear hp2 hsq hsr hmq hmr hg12
  generalize w12 = w8 at *
  go_wp2_with fail
  refine (text_calls q _ _ w8 MQ8.out (HT.out.below HB8.out)).mono ?_
  rintro e w9 ⟨rfl, hb9⟩
  have MR9 := Lib.hid (MR8.out.below hb9)
  have HB9 := Lib.hid (below_then HB8.out HB8.out.size hb9); clear hb9
  go_wp2_with fail
  refine (text_calls r _ _ w9 MR9.out (HT.out.below HB9.out)).mono ?_
  rintro e w10 ⟨rfl, hb10⟩
  have HB10 := Lib.hid (below_then HB9.out HB9.out.size hb10); clear hb10
  go_wp2
  go_ret3
  exact ⟨by rw [HP.out.1, HP.out.2]; first | rfl | (simp only [hss, Bool.not_true]; rfl), HB10.out⟩
set_option maxRecDepth 100000 in
set_option maxHeartbeats 8000000 in
theorem parted_calls (a b : ByteArray) (ha : a.size ≤ 9223372036854775807) (hb : b.size ≤ 9223372036854775807) (w : World) (ht : Tabs w) :
  Calls Tryz.prog 103 #[.string a, .string b] w (PartPost w (partF a b)) := by
 have hall := all_two a b ha hb
 by_cases hc : chks [a, b] = 0
 ·obtain ⟨h1, h2⟩ := chks_two hc
  rw [hc] at hall
  by_cases hz : ival b = 0
  ·have hp : partF a b = (⟨#[]⟩, ⟨#[]⟩, 10) := by unfold partF; rw [if_neg (fun h => h hc), if_pos hz]
   rw [hp]
   have hb0 := zero_text h2
   rw [decide_eq_true hz] at hb0
   clear hp hz hc h1 h2 ha hb
   have HT := Lib.hid ht; clear ht
   obtain ⟨y, hy⟩ : ∃ y : List ByteArray, y = [a, b] := ⟨_, rfl⟩
   have Ny := Lib.hid hy
   rw [← hy] at hall
   have HAL := Lib.hid hall; clear hall hy
   go_enter Tryz.func103, Tryz.ntmps103
   go_wp2_with (first | ((with_reducible refine gate_dst (N := 20) rfl ?_); refine Kd.R_lit Kd.string _ 39 ?hg (N := 20) ?hd (xs := ([a, b] : List ByteArray)) (inner := [.string a, .string b]) (ok := fun _ => True) (okp := fun _ => True) ?hr ?hp (fun _ hk => hk) trivial (Below.refl _ _) (Nat.le_refl _) (by simp) ?_; (case hd => rfl); (case hg => rfl); (case hr => first | (go_simp; done) | (go_simp; rfl)); (case hp => exact (Reps.one (show Kd.M Kd.string _ _ _ a [.string a] from rfl) (Reps.one (show Kd.M Kd.string _ _ _ b [.string b] from rfl) (Reps.none _ _)))); intro v1 w1 ho hb1 hg_ hnew_; clear hg_ hnew_; rw [← Ny.out] at ho; have HO := Lib.hid ho; clear ho; have HB1 := Lib.hid hb1; clear hb1; obtain ⟨Ao, co, eo⟩ := Kd.R_slice HO.out; subst eo))
   refine (C.whole_all.calls 5 Ao co y 0 w1 (Kd.R_reads' HO.out).2.2 (Kd.R_reads' HO.out).2.1 HAL.out).mono ?_
   rintro e w2 ⟨rfl, hb2⟩
   have HB2 := Lib.hid (below_then HB1.out HB1.out.size hb2); clear hb2 HO
   go_wp2
   go_ret3
   exact ⟨rfl, HB2.out⟩
  ·have hp : partF a b = (itx ((ival a).fdiv (ival b)), itx ((ival a).fmod (ival b)), 0) := by unfold partF; rw [if_neg (fun h => h hc), if_neg hz]
   rw [hp]
   by_cases h9 : a.size ≤ 9 ∧ b.size ≤ 9
   ·exact parted_small a b w h1 h2 hz h9 hall ht
   ·exact parted_big a b w h1 h2 hz h9 hall ht
 ·have hp : partF a b = (⟨#[]⟩, ⟨#[]⟩, chks [a, b]) := by unfold partF; rw [if_pos hc]
  rw [hp]
  generalize chks [a, b] = c at hall hc ⊢
  have hc2 : (c == 0) = false := beq_eq_false_iff_ne.2 hc
  clear hp hc ha hb
  have HT := Lib.hid ht; clear ht
  obtain ⟨y, hy⟩ : ∃ y : List ByteArray, y = [a, b] := ⟨_, rfl⟩
  have Ny := Lib.hid hy
  rw [← hy] at hall
  have HAL := Lib.hid hall; clear hall hy
  go_enter Tryz.func103, Tryz.ntmps103
  go_wp2_with (first | ((with_reducible refine gate_dst (N := 20) rfl ?_); refine Kd.R_lit Kd.string _ 39 ?hg (N := 20) ?hd (xs := ([a, b] : List ByteArray)) (inner := [.string a, .string b]) (ok := fun _ => True) (okp := fun _ => True) ?hr ?hp (fun _ hk => hk) trivial (Below.refl _ _) (Nat.le_refl _) (by simp) ?_; (case hd => rfl); (case hg => rfl); (case hr => first | (go_simp; done) | (go_simp; rfl)); (case hp => exact (Reps.one (show Kd.M Kd.string _ _ _ a [.string a] from rfl) (Reps.one (show Kd.M Kd.string _ _ _ b [.string b] from rfl) (Reps.none _ _)))); intro v1 w1 ho hb1 hg_ hnew_; clear hg_ hnew_; rw [← Ny.out] at ho; have HO := Lib.hid ho; clear ho; have HB1 := Lib.hid hb1; clear hb1; obtain ⟨Ao, co, eo⟩ := Kd.R_slice HO.out; subst eo))
  refine (C.whole_all.calls 5 Ao co y c w1 (Kd.R_reads' HO.out).2.2 (Kd.R_reads' HO.out).2.1 HAL.out).mono ?_
  rintro e w2 ⟨rfl, hb2⟩
  have HB2 := Lib.hid (below_then HB1.out HB1.out.size hb2); clear hb2 HO
  go_wp2
  go_ret3
  exact ⟨rfl, HB2.out⟩
end Go.Proofs.YtkdpcgmnkifbbaaGreatDoor
end
section
namespace Go.Proofs.YtkdpcgmnkifbbaaGreatDoor
open Go.RowKit Go.Proofs.YtkdpcgmnkifbbaaGreatDoorW.PrintWords Go.Proofs.YtkdpcgmnkifbbaaGreatDoorW.PrintMore
def gcdv (u v : Int) : Int := (Nat.gcd u.natAbs v.natAbs : Int)
theorem wd_one {m : Nat} (h : nw m ≤ 1) : wd m 0 = m := by
 have := lt_nw m
 have h2 : m < BB ^ 1 := Nat.lt_of_lt_of_le this (Nat.pow_le_pow_right (by decide) h)
 rw [Nat.pow_one] at h2
 unfold wd
 rw [Nat.pow_zero, Nat.div_one, Nat.mod_eq_of_lt h2]
set_option maxRecDepth 100000 in
set_option maxHeartbeats 8000000 in
theorem gcd_calls (a b : ByteArray) (ha : a.size ≤ 9223372036854775807) (hb : b.size ≤ 9223372036854775807) (w : World) (ht : Tabs w) :
  Calls Tryz.prog 60 #[.string a, .string b] w (TwoPost w (two a b (itx (gcdv (ival a) (ival b)), 0))) := by
 have hall := all_two a b ha hb
 have HT := Lib.hid ht; clear ht
 have HAL := Lib.hid hall; clear hall ha hb
 obtain ⟨y, hy⟩ : ∃ y : List ByteArray, y = [a, b] := ⟨_, rfl⟩
 have Ny := Lib.hid hy
 rw [← hy] at HAL
 by_cases hc : chks [a, b] = 0
 ·rw [← hy] at hc
  rw [hc] at HAL
  rw [hy] at hc
  clear hy
  obtain ⟨h1, h2⟩ := chks_two hc
  have htwo := two_ok (r := (itx (gcdv (ival a) (ival b)), 0)) hc
  rw [htwo]
  clear hc htwo
  have H1 := Lib.hid h1; clear h1
  have H2 := Lib.hid h2; clear h2
  obtain ⟨G, hG⟩ : ∃ G, G = Nat.gcd (ival a).natAbs (ival b).natAbs := ⟨_, rfl⟩
  have hpost : gcdv (ival a) (ival b) = (G : Int) := by rw [hG]; rfl
  rw [hpost]
  have HGE := Lib.hid hG.symm; clear hG hpost
  go_enter Tryz.func60, Tryz.ntmps60
  go_wp2_with (first | ((with_reducible refine gate_dst (N := 15) rfl ?_); refine Kd.R_lit Kd.string _ 39 ?hg (N := 15) ?hd (xs := ([a, b] : List ByteArray)) (inner := [.string a, .string b]) (ok := fun _ => True) (okp := fun _ => True) ?hr ?hp (fun _ hk => hk) trivial (Below.refl _ _) (Nat.le_refl _) (by simp) ?_; (case hd => rfl); (case hg => rfl); (case hr => first | (go_simp; done) | (go_simp; rfl)); (case hp => exact (Reps.one (show Kd.M Kd.string _ _ _ a [.string a] from rfl) (Reps.one (show Kd.M Kd.string _ _ _ b [.string b] from rfl) (Reps.none _ _)))); intro v1 w1 ho hb1 hg_ hnew_; clear hg_ hnew_; rw [← Ny.out] at ho; have HO := Lib.hid ho; clear ho; have HB1 := Lib.hid hb1; clear hb1; obtain ⟨Ao, co, eo⟩ := Kd.R_slice HO.out; subst eo))
  refine (C.whole_all.calls 5 Ao co y 0 w1 (Kd.R_reads' HO.out).2.2 (Kd.R_reads' HO.out).2.1 HAL.out).mono ?_
  rintro e w2 ⟨rfl, hb2⟩
  have HB2 := Lib.hid (below_then HB1.out HB1.out.size hb2); clear hb2 HO
  go_wp2_with fail
  refine (read_calls a H1.out w2).mono ?_
  rintro e w4 ⟨rfl, hm4, hb4⟩
  have HM4 := Lib.hid hm4; clear hm4
  have HB4 := Lib.hid (below_then HB2.out HB2.out.size hb4); clear hb4
  go_wp2_with fail
  refine (read_calls b H2.out w4).mono ?_
  rintro e w5 ⟨rfl, hm5, hb5⟩
  have HM5 := Lib.hid hm5; clear hm5
  have HM4' := Lib.hid (HM4.out.below hb5); clear HM4
  have HB5 := Lib.hid (below_then HB4.out HB4.out.size hb5); clear hb5
  have hb24 := HB2.out.size
  have hb44 := HB4.out.size
  go_wp2
  go_loopg [7, 8] (ival b).natAbs (fun g v7 v8 wr => ∃ (bx bz : Nat) (sx sy : Bool) (m : Nat), v7 = .pointer (some ⟨bx, 0, none⟩) ∧ v8 = .pointer (some ⟨bz, 0, none⟩) ∧ w.heap.size ≤ bx ∧ w.heap.size ≤ bz ∧ Hid (Mg wr bx sx m) ∧ Hid (Mg wr bz sy g) ∧ Hid (Nat.gcd m g = G) ∧ Hid (nw m ≤ 114 ∧ nw g ≤ 114) ∧ Hid (Below w.heap.size w wr))
  case atStart => exact ⟨w2.heap.size, w4.heap.size, _, _, (ival a).natAbs, rfl, rfl, hb24, hb44, HM4', HM5, HGE, Lib.hid ⟨nw_digits H1.out, nw_digits H2.out⟩, HB5⟩
  case round =>
   obtain ⟨bx, bz, sx, sy, m, rfl, rfl, hbx, hbz, HX, HY, HG, HN, HB⟩ := hrel
   clear HM4' HM5 HB5 HB4 HB2 HB1 hb24 hb44 HGE
   have cx := HX.out.c1
   have cy := HY.out.c1
   have cl := HX.out.c0
   have fl := HX.out.at_.fz 0
   rcases Nat.eq_zero_or_pos gk with h0 | h0
   ·subst h0
    rw [nw_zero] at cy
    go_wp2_with fail
    refine (text_calls bx false m _ (HX.out.setless false) (HT.out.below (below_set HB.out hbx 0 (.bool false)))).mono ?_
    rintro e w7 ⟨rfl, hb7⟩
    have hb8 := below_set HB.out hbx 0 (.bool false)
    have HB7 := Lib.hid (below_then hb8 hb8.size hb7); clear hb7 hb8
    go_wp2
    go_ret2
    have hg := HG.out
    rw [Nat.gcd_zero_right] at hg
    exact ⟨by rw [hg]; rfl, HB7.out⟩
   ·obtain ⟨g, rfl⟩ : ∃ g, gk = g + 1 := ⟨gk - 1, by omega⟩
    have hgp : ((nw (g + 1) : Nat) : Int) > 0 := by have := nw_succ (show g + 1 ≠ 0 by omega); omega
    clear h0 fl cl
    by_cases hm1 : nw m ≤ 1
    ·by_cases hg1 : nw (g + 1) ≤ 1
     ·have c0 := HX.out.cw 0 (by decide)
      have d0 := HY.out.cw 0 (by decide)
      rw [wd_one hm1] at c0
      rw [wd_one hg1] at d0
      have hmB : m < 1000000000 := by
       have := lt_nw m
       have h2 : m < BB ^ 1 := Nat.lt_of_lt_of_le this (Nat.pow_le_pow_right (by decide) hm1)
       rw [Nat.pow_one, BB_eq] at h2; exact h2
      have hgB : g + 1 < 1000000000 := by
       have := lt_nw (g + 1)
       have h2 : g + 1 < BB ^ 1 := Nat.lt_of_lt_of_le this (Nat.pow_le_pow_right (by decide) hg1)
       rw [Nat.pow_one, BB_eq] at h2; exact h2
      have hm1' : ((nw m : Nat) : Int) ≤ 1 := by omega
      have hg1' : ((nw (g + 1) : Nat) : Int) ≤ 1 := by omega
      generalize nw m = am at cx hm1' hm1
      generalize nw (g + 1) = ag at cy hg1' hg1 hgp
      obtain ⟨n, hn⟩ : ∃ n, n = g + 1 := ⟨_, rfl⟩
      rw [← hn] at d0 hgB HG
      clear hm1 hg1 hn
      go_wp2_with fail
      go_region
      go_wp2
      go_loopg [9, 10] n (fun k v9 v10 wq => ∃ (p : Nat), v9 = .int .i64 (p : Int) ∧ v10 = .int .i64 (k : Int) ∧ p < 1000000000 ∧ k < 1000000000 ∧ Hid (Nat.gcd p k = G) ∧ Hid (Below w.heap.size w wq))
      case atStart => exact ⟨m, rfl, rfl, hmB, hgB, HG, Lib.hid (HB.out.drew)⟩
      case round =>
       clear cx cy c0 d0
       obtain ⟨p, rfl, rfl, hp, hk, HGP, HBQ⟩ := hrel
       rcases Nat.eq_zero_or_pos gk with h0 | h0
       ·subst h0
        have hg := HGP.out
        rw [Nat.gcd_zero_right] at hg
        have HGE2 := Lib.hid hg; clear hg
        have HOF := Lib.hid (of_f (p : Int) (by omega) (by omega))
        go_wp2_with fail
        refine (C.whole_Of.calls (p : Int) (itx p) wr HOF.out (Aside0.mk (HT.out.below HBQ.out))).mono ?_
        rintro e w7 ⟨rfl, hb7⟩
        have HB7 := Lib.hid (below_then HBQ.out HBQ.out.size hb7); clear hb7
        go_wp2
        go_ret2
        exact ⟨by rw [← HGE2.out]; rfl, HB7.out⟩
       ·obtain ⟨k, rfl⟩ : ∃ k, gk = k + 1 := ⟨gk - 1, by omega⟩
        have hz : (((k + 1 : Nat) : Int) == 0) = false := by rw [beq_eq_false_iff_ne]; omega
        have hz2 : ¬ ((k + 1 : Nat) : Int) = 0 := by omega
        have hmod : (p : Int) % ((k + 1 : Nat) : Int) = ((p % (k + 1) : Nat) : Int) := rfl
        have hlt : p % (k + 1) < k + 1 := Nat.mod_lt _ (Nat.succ_pos k)
        have HGN : Hid (Nat.gcd (k + 1) (p % (k + 1)) = G) := Lib.hid (by rw [← HGP.out, Nat.gcd_comm p, Nat.gcd_rec (k + 1) p, Nat.gcd_comm])
        have HMD := Lib.hid hmod; clear hmod
        obtain ⟨kk, hkk⟩ : ∃ kk : Int, kk = ((k + 1 : Nat) : Int) := ⟨_, rfl⟩
        rw [← hkk] at hz hz2 HMD ⊢
        have HKK := Lib.hid hkk; clear hkk h0
        go_wp2_with fail
        go_region
        rw [HMD.out, HKK.out]
        go_wp2
        go_roundg (p % (k + 1))
        case measure => exact hlt
        case rel => exact ⟨k + 1, rfl, rfl, hk, by omega, HGN, Lib.hid HBQ.out.drew⟩
     ·have hm1' : ((nw m : Nat) : Int) ≤ 1 := by omega
      have hg1' : ¬ ((nw (g + 1) : Nat) : Int) ≤ 1 := by omega
      generalize nw m = am at cx hm1' hm1
      generalize nw (g + 1) = ag at cy hg1' hg1 hgp
      clear hm1 hg1
      go_wp2_with fail
      refine (divided_calls bx bz _ _ m (g + 1) wr HX.out HY.out (by omega) (by have := HN.out; omega)).mono ?_
      rintro e w6 ⟨q, r, rfl, hq, hr, hqr, hmq, hmr, hb6⟩
      have HMR := Lib.hid hmr; clear hmr hmq hqr hq
      have hyy := HY.out.below hb6
      have HYY := Lib.hid hyy; clear hyy
      have hbs := HB.out.size
      have HB6 := Lib.hid (below_then HB.out HB.out.size hb6); clear hb6
      go_wp2
      go_roundg (m % (g + 1))
      case measure => exact Nat.mod_lt _ (Nat.succ_pos g)
      case rel => exact ⟨bz, r, _, _, g + 1, rfl, rfl, hbz, by omega, HYY, HMR, Lib.hid (by rw [← HG.out, Nat.gcd_comm m, Nat.gcd_rec (g + 1) m, Nat.gcd_comm]), Lib.hid (by have := HN.out; exact ⟨this.2, nw_le (Nat.lt_of_lt_of_le (Nat.mod_lt _ (Nat.succ_pos g)) (Nat.le_of_lt (Nat.lt_of_lt_of_le (lt_nw (g + 1)) (Nat.pow_le_pow_right (by decide) this.2))))⟩), HB6⟩
    ·have hm1' : ¬ ((nw m : Nat) : Int) ≤ 1 := by omega
     generalize nw m = am at cx hm1' hm1
     generalize nw (g + 1) = ag at cy hgp
     clear hm1
     go_wp2_with fail
     refine (divided_calls bx bz _ _ m (g + 1) wr HX.out HY.out (by omega) (by have := HN.out; omega)).mono ?_
     rintro e w6 ⟨q, r, rfl, hq, hr, hqr, hmq, hmr, hb6⟩
     have HMR := Lib.hid hmr; clear hmr hmq hqr hq
     have hyy := HY.out.below hb6
     have HYY := Lib.hid hyy; clear hyy
     have hbs := HB.out.size
     have HB6 := Lib.hid (below_then HB.out HB.out.size hb6); clear hb6
     go_wp2
     go_roundg (m % (g + 1))
     case measure => exact Nat.mod_lt _ (Nat.succ_pos g)
     case rel => exact ⟨bz, r, _, _, g + 1, rfl, rfl, hbz, by omega, HYY, HMR, Lib.hid (by rw [← HG.out, Nat.gcd_comm m, Nat.gcd_rec (g + 1) m, Nat.gcd_comm]), Lib.hid (by have := HN.out; exact ⟨this.2, nw_le (Nat.lt_of_lt_of_le (Nat.mod_lt _ (Nat.succ_pos g)) (Nat.le_of_lt (Nat.lt_of_lt_of_le (lt_nw (g + 1)) (Nat.pow_le_pow_right (by decide) this.2))))⟩), HB6⟩
 ·have htwo := two_bad (r := (itx (gcdv (ival a) (ival b)), 0)) hc
  rw [htwo]
  rw [show chks y = chks [a, b] by rw [hy]] at HAL
  generalize chks [a, b] = c at HAL hc ⊢
  clear hy htwo
  have hc2 : (c == 0) = false := beq_eq_false_iff_ne.2 hc
  clear hc
  go_enter Tryz.func60, Tryz.ntmps60
  go_wp2_with (first | ((with_reducible refine gate_dst (N := 15) rfl ?_); refine Kd.R_lit Kd.string _ 39 ?hg (N := 15) ?hd (xs := ([a, b] : List ByteArray)) (inner := [.string a, .string b]) (ok := fun _ => True) (okp := fun _ => True) ?hr ?hp (fun _ hk => hk) trivial (Below.refl _ _) (Nat.le_refl _) (by simp) ?_; (case hd => rfl); (case hg => rfl); (case hr => first | (go_simp; done) | (go_simp; rfl)); (case hp => exact (Reps.one (show Kd.M Kd.string _ _ _ a [.string a] from rfl) (Reps.one (show Kd.M Kd.string _ _ _ b [.string b] from rfl) (Reps.none _ _)))); intro v1 w1 ho hb1 hg_ hnew_; clear hg_ hnew_; rw [← Ny.out] at ho; have HO := Lib.hid ho; clear ho; have HB1 := Lib.hid hb1; clear hb1; obtain ⟨Ao, co, eo⟩ := Kd.R_slice HO.out; subst eo))
  refine (C.whole_all.calls 5 Ao co y c w1 (Kd.R_reads' HO.out).2.2 (Kd.R_reads' HO.out).2.1 HAL.out).mono ?_
  rintro e w2 ⟨rfl, hb2⟩
  have HB2 := Lib.hid (below_then HB1.out HB1.out.size hb2); clear hb2 HO
  go_wp2
  go_ret2
  exact ⟨rfl, HB2.out⟩
end Go.Proofs.YtkdpcgmnkifbbaaGreatDoor
end
