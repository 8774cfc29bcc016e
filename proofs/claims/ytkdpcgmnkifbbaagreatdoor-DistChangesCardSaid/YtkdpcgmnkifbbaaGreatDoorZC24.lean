/- Joined by a program of this session out of its texts, with only what the last theorem needs: Rr Ra Rb. No conditions but those stated. -/
import Derived.Test.YtkdpcgmnkifbbaaGreatDoorZC23
set_option linter.unusedVariables false
set_option linter.unusedSimpArgs false
namespace Go.Proofs.YtkdpcgmnkifbbaaGreatDoorW.PrintMore
end Go.Proofs.YtkdpcgmnkifbbaaGreatDoorW.PrintMore
namespace Go.Proofs.YtkdpcgmnkifbbaaGreatDoorW.PrintWords
end Go.Proofs.YtkdpcgmnkifbbaaGreatDoorW.PrintWords
section
namespace Go.Proofs.YtkdpcgmnkifbbaaGreatDoor
open Go.RowKit Go.Proofs.YtkdpcgmnkifbbaaGreatDoorW.PrintWords Go.Proofs.YtkdpcgmnkifbbaaGreatDoorW.PrintMore
def rtx (q : Rat) : ByteArray := if q.den = 1 then itx q.num else itx q.num ++ ⟨#[47]⟩ ++ itx q.den
def gdiv (u v : Int) : Int := if v < 0 then -gcdv u v else gcdv u v
theorem gcdv_pos {u v : Int} (hv : v ≠ 0) : 0 < gcdv u v := by
 unfold gcdv
 have : 0 < Nat.gcd u.natAbs v.natAbs := Nat.gcd_pos_of_pos_right _ (by omega)
 omega
theorem gdiv_ne {u v : Int} (hv : v ≠ 0) : gdiv u v ≠ 0 := by
 have := gcdv_pos (u := u) hv
 unfold gdiv; split <;> omega
theorem gcd_eq (u v : Int) : ((v.gcd u : Nat) : Int) = gcdv u v := by
 unfold gcdv Int.gcd; rw [Nat.gcd_comm]
theorem gcdv_dvd_left (u v : Int) : gcdv u v ∣ u := by
 unfold gcdv; exact Int.ofNat_dvd_left.2 (Nat.gcd_dvd_left _ _)
theorem gcdv_dvd_right (u v : Int) : gcdv u v ∣ v := by
 unfold gcdv; exact Int.ofNat_dvd_left.2 (Nat.gcd_dvd_right _ _)
theorem low_num {u v : Int} (hv : v ≠ 0) : u.fdiv (gdiv u v) = (Rat.divInt u v).num := by
 have hp := gcdv_pos (u := u) hv
 obtain ⟨c, hc⟩ := gcdv_dvd_left u v
 rw [Rat.num_divInt, gcd_eq]
 unfold gdiv
 generalize gcdv u v = g at *
 subst hc
 by_cases h : v < 0
 ·rw [if_pos h, Int.sign_eq_neg_one_of_neg h]
  rw [show (-1 : Int) * (g * c) = g * -c by rw [Int.mul_neg, Int.neg_mul, Int.one_mul], Int.mul_ediv_cancel_left _ (by omega)]
  exact (fdm_of (r := 0) (by omega) (by rw [Int.zero_add, Int.neg_mul_neg]) (by omega) (by omega)).1
 ·rw [if_neg h, Int.sign_eq_one_of_pos (by omega), Int.one_mul, Int.mul_ediv_cancel_left _ (by omega)]
  exact (fdm_of (r := 0) (by omega) (by rw [Int.zero_add]) (by omega) (by omega)).1
theorem low_den {u v : Int} (hv : v ≠ 0) : v.fdiv (gdiv u v) = ((Rat.divInt u v).den : Int) := by
 have hp := gcdv_pos (u := u) hv
 obtain ⟨c, hc⟩ := gcdv_dvd_right u v
 rw [Rat.den_divInt, if_neg hv, Int.natCast_ediv, gcd_eq]
 unfold gdiv
 have hv2 := hv
 generalize gcdv u v = g at *
 by_cases h : v < 0
 ·rw [if_pos h, show ((v.natAbs : Nat) : Int) = -v by omega]
  subst hc
  rw [show -(g * c) = g * -c by rw [Int.mul_neg], Int.mul_ediv_cancel_left _ (by omega)]
  exact (fdm_of (r := 0) (by omega) (by rw [Int.zero_add, Int.neg_mul_neg]) (by omega) (by omega)).1
 ·rw [if_neg h, show ((v.natAbs : Nat) : Int) = v by omega]
  subst hc
  rw [Int.mul_ediv_cancel_left _ (by omega)]
  exact (fdm_of (r := 0) (by omega) (by rw [Int.zero_add]) (by omega) (by omega)).1
theorem fits_gcd {u v : Int} (hv : v ≠ 0) (hf : fits v) : fits (gdiv u v) := by
 refine fits_of_le ?_ hf
 have h1 : (gdiv u v).natAbs = Nat.gcd u.natAbs v.natAbs := by unfold gdiv gcdv; split <;> omega
 rw [h1]; exact Nat.gcd_le_right _ (by omega)
theorem hasPrefix_f {a : ByteArray} (h : chk a = 0) : Q.strings_HasPrefix.f a ⟨#[45]⟩ = some (decide (ival a < 0)) := by
 unfold Q.strings_HasPrefix.f Q.stringslite_HasPrefix.f
 have hs : ((⟨#[45]⟩ : ByteArray).size : Int) = 1 := rfl
 have hp : 0 < a.size := by
  rw [Lib.size_eq]
  exact Nat.lt_of_lt_of_le (List.length_pos_iff.2 (form_all (chk_form h)).2) (digs_len _)
 rw [hs, if_pos (by omega), if_pos (by decide), if_pos (by omega)]
 have h1 := form_head a (chk_form h)
 rw [Lib.extract_toList, Lib.toList_data, Option.bind_some, show ((1 : Int)).toNat = 1 from rfl]
 congr 1
 rw [Bool.eq_iff_iff, beq_iff_eq, decide_eq_true_iff, ← h1]
 cases hl : a.data.toList with
 | nil => rw [Lib.size_eq, hl] at hp; simp at hp
 | cons c t => simp
theorem joined_f (u : Int) (d : Nat) (hu : fits u) (hd : fits d) : Q.ratio_joined.f (itx u) (itx d) = some (if d = 1 then itx u else itx u ++ ⟨#[47]⟩ ++ itx d) := by
 have s1 := chk_size (a := itx u) (by rw [chk_itx, if_pos hu])
 have s2 := chk_size (a := itx d) (by rw [chk_itx, if_pos hd])
 have hz : (⟨#[47]⟩ : ByteArray).size = 1 := rfl
 unfold Q.ratio_joined.f
 by_cases h : d = 1
 ·rw [if_pos ((itx_one_list _).2 (by omega)), if_pos h]
 ·rw [if_neg (fun h2 => h (by have := (itx_one_list _).1 h2; omega)), if_neg h, if_pos (by omega), if_pos (by rw [ByteArray.size_append, hz]; omega)]
theorem sub_calls (a b : ByteArray) (ha : a.size ≤ 9223372036854775807) (hb : b.size ≤ 9223372036854775807) (w : World) (ht : Tabs w) :
  Calls Tryz.prog 120 #[.string a, .string b] w (TwoPost w (two a b (kept (ival a - ival b)))) := by
 have := L.whole_Sub.calls a b (two a b (kept (ival a - ival b))).1 (two a b (kept (ival a - ival b))).2 w (sub_f a b ha hb) ⟨ht⟩
 exact this
theorem quo_calls (a b : ByteArray) (ha : a.size ≤ 9223372036854775807) (hb : b.size ≤ 9223372036854775807) (w : World) (ht : Tabs w) :
  Calls Tryz.prog 61 #[.string a, .string b] w (TwoPost w (quoF a b)) := by
 have := L.whole_Quo.calls a b (quoF a b).1 (quoF a b).2 w (quo_f a b ha hb) ⟨ht⟩
 exact this
theorem sumsSub (s : Nat) (a b : ByteArray) (e : Int) (w : World) (hs : Sm w s e) (ha : a.size ≤ 9223372036854775807) (hb : b.size ≤ 9223372036854775807) (ht : Tabs w) :
  Calls Tryz.prog 85 #[.pointer (some ⟨s, 0, none⟩), .string a, .string b] w (DoPost w s (dos e (two a b (kept (ival a - ival b))))) := by
 have h := do_Sub s a b e _ w hs (sub_calls a b ha hb w ht)
 generalize dos e (two a b (kept (ival a - ival b))) = r at h ⊢
 have H := Lib.hid h; clear h hs ha hb ht
 go_enter Tryz.func85, Tryz.ntmps85
 go_wp2_with fail
 refine H.out.mono ?_
 rintro e w1 ⟨rfl, h1, h2⟩
 have H1 := Lib.hid h1; clear h1
 have H2 := Lib.hid h2; clear h2
 go_wp2
 go_ret
 exact ⟨rfl, H1.out, H2.out⟩
theorem two_go {a b : ByteArray} (ha : chk a = 0) (hb : chk b = 0) (r : ByteArray × Int) : two a b r = r := by
 unfold two; rw [if_neg (fun h => h ha), if_neg (fun h => h hb)]
theorem dos_ok (t : ByteArray) : dos 0 (t, 0) = (t, 0) := rfl
theorem quo_go {a b : ByteArray} (ha : chk a = 0) (hb : chk b = 0) (hz : ival b ≠ 0) : quoF a b = (itx ((ival a).fdiv (ival b)), 0) := by
 unfold quoF
 rw [two_go ha hb, if_neg hz, kept_fits (fits_of_le (quo_le _ _ hz) (chk_zero ha).2)]
theorem divInt_fits {u v : Int} (hv : v ≠ 0) (hu : fits u) (hf : fits v) : fits (Rat.divInt u v).num ∧ fits ((Rat.divInt u v).den : Int) := by
 rw [← low_num hv, ← low_den hv]
 exact ⟨fits_of_le (quo_le _ _ (gdiv_ne hv)) hu, fits_of_le (quo_le _ _ (gdiv_ne hv)) hf⟩
theorem zero_ok : chk (⟨#[48]⟩ : ByteArray) = 0 ∧ ival (⟨#[48]⟩ : ByteArray) = 0 := by
 rw [← itx_zero]; exact ⟨chk_small (by decide), ival_itx 0⟩
def LowPost (w : World) (s : Nat) (q : Rat) (e : Ending) (w' : World) : Prop := e = .returned (.string (rtx q)) ∧ Sm w' s 0 ∧ w.grownBy w' (some s)
set_option maxRecDepth 100000 in
set_option maxHeartbeats 4000000 in
theorem lowest_calls (s : Nat) (num den : ByteArray) (w w0 : World) (hs : Sm w s 0) (hn : chk num = 0) (hd : chk den = 0) (hz : ival den ≠ 0) (hu : Up w s w0) :
  Calls Tryz.prog 108 #[.pointer (some ⟨s, 0, none⟩), .string num, .string den] w (LowPost w s (Rat.divInt (ival num) (ival den))) := by
 have zn : num.size ≤ 9223372036854775807 := by have := chk_size hn; omega
 have zd : den.size ≤ 9223372036854775807 := by have := chk_size hd; omega
 have hg := gcd_calls num den zn zd w hu.tab
 rw [two_go hn hd] at hg
 have HG := Lib.hid (do_Gcd s num den 0 _ w hs hg); clear hg
 rw [dos_ok] at HG
 have HP := Lib.hid (hasPrefix_f hd)
 have hgd := gdiv_ne (u := ival num) hz
 have fg := fits_gcd (u := ival num) hz (chk_zero hd).2
 have hgc : chk (itx (gdiv (ival num) (ival den))) = 0 := by rw [chk_itx, if_pos fg]
 have zg : (itx (gdiv (ival num) (ival den))).size ≤ 9223372036854775807 := by have := chk_size hgc; omega
 have q1 : ∀ w : World, Tabs w → Calls Tryz.prog 61 #[.string num, .string (itx (gdiv (ival num) (ival den)))] w (TwoPost w (itx (Rat.divInt (ival num) (ival den)).num, 0)) := by
  intro w ht
  have := quo_calls num _ zn zg w ht
  rw [quo_go hn hgc (by rw [ival_itx]; exact hgd), ival_itx, low_num hz] at this
  exact this
 have q2 : ∀ w : World, Tabs w → Calls Tryz.prog 61 #[.string den, .string (itx (gdiv (ival num) (ival den)))] w (TwoPost w (itx (Rat.divInt (ival num) (ival den)).den, 0)) := by
  intro w ht
  have := quo_calls den _ zd zg w ht
  rw [quo_go hd hgc (by rw [ival_itx]; exact hgd), ival_itx, low_den hz] at this
  exact this
 have hff := divInt_fits hz (chk_zero hn).2 (chk_zero hd).2
 have HJ := Lib.hid (joined_f _ _ hff.1 hff.2)
 have hgcdc : chk (itx (gcdv (ival num) (ival den))) = 0 := by
  rw [chk_itx, if_pos]
  refine fits_of_le ?_ fg
  unfold gdiv; split <;> omega
 have hneg : ival den < 0 → ∀ (w1 : World), Sm w1 s 0 → Tabs w1 → Calls Tryz.prog 85 #[.pointer (some ⟨s, 0, none⟩), .string ⟨#[48]⟩, .string (itx (gcdv (ival num) (ival den)))] w1 (DoPost w1 s (itx (gdiv (ival num) (ival den)), 0)) := by
  intro hlt w1 h1 h2
  have := sumsSub s ⟨#[48]⟩ (itx (gcdv (ival num) (ival den))) 0 w1 h1 (by decide) (by have := chk_size hgcdc; omega) h2
  rw [two_go zero_ok.1 hgcdc, zero_ok.2, ival_itx, show (0 : Int) - gcdv (ival num) (ival den) = gdiv (ival num) (ival den) by unfold gdiv; rw [if_pos hlt]; omega, kept_fits fg, dos_ok] at this
  exact this
 have hpos : ¬ ival den < 0 → gcdv (ival num) (ival den) = gdiv (ival num) (ival den) := by
  intro hlt; unfold gdiv; rw [if_neg hlt]
 have HN := Lib.hid hneg; clear hneg
 have HPO := Lib.hid hpos; clear hpos
 have HQ1 := Lib.hid q1; clear q1
 have HQ2 := Lib.hid q2; clear q2
 have HU := Lib.hid hu; clear hu
 have hrt : rtx (Rat.divInt (ival num) (ival den)) = if (Rat.divInt (ival num) (ival den)).den = 1 then itx (Rat.divInt (ival num) (ival den)).num else itx (Rat.divInt (ival num) (ival den)).num ++ ⟨#[47]⟩ ++ itx (Rat.divInt (ival num) (ival den)).den := rfl
 rw [← hrt] at HJ
 clear hrt hff zn zd zg hgc hgd fg hz hgcdc hn hd hs
 generalize Rat.divInt (ival num) (ival den) = q at *
 generalize gdiv (ival num) (ival den) = gd at *
 generalize gcdv (ival num) (ival den) = gc at *
 by_cases hlt : ival den < 0
 ·rw [decide_eq_true hlt] at HP
  have HN2 := Lib.hid (HN.out hlt); clear HN HPO hlt
  go_enter Tryz.func108, Tryz.ntmps108
  go_wp2_with fail
  refine HG.out.mono ?_
  rintro e w1 ⟨rfl, h1, h2⟩
  have H1 := Lib.hid h1; clear h1
  have HU1 := Lib.hid (HU.out.grown h2)
  have HG1 := Lib.hid h2; clear h2
  go_wp2_with fail
  refine (Q.strings_HasPrefix.calls den ⟨#[45]⟩ true w1 HP.out).mono ?_
  rintro e w2 ⟨rfl, n2, rfl⟩
  have HS2 := Lib.hid (H1.out.drewN n2)
  have HG2 := Lib.hid (gby_drewN HG1.out n2)
  have HU2 := Lib.hid (HU1.out.then (pw_below_drewN (Below.refl _ _) n2))
  generalize w1.drewN n2 = w2 at *
  go_wp2_with fail
  refine (HN2.out w2 HS2.out HU2.out.tab).mono ?_
  rintro e w3 ⟨rfl, h1, h2⟩
  have c3 := h1.c0
  have HS3 := Lib.hid h1; clear h1
  have HU3 := Lib.hid (HU2.out.grown h2)
  have HG3 := Lib.hid (gby_trans HG2.out h2); clear h2
  go_wp2_with fail
  refine (do_Quo s num (itx gd) 0 _ w3 HS3.out (HQ1.out w3 HU3.out.tab)).mono ?_
  rintro e w4 ⟨rfl, h1, h2⟩
  have HS4 := Lib.hid h1; clear h1
  have HU4 := Lib.hid (HU3.out.grown h2)
  have HG4 := Lib.hid (gby_trans HG3.out h2); clear h2
  go_wp2_with fail
  refine (do_Quo s den (itx gd) 0 _ w4 HS4.out (HQ2.out w4 HU4.out.tab)).mono ?_
  rintro e w5 ⟨rfl, h1, h2⟩
  have HS5 := Lib.hid h1; clear h1
  have HG5 := Lib.hid (gby_trans HG4.out h2); clear h2
  go_wp2_with fail
  refine (Q.ratio_joined.calls _ _ _ w5 HJ.out).mono ?_
  rintro e w6 ⟨rfl, n6, rfl⟩
  go_wp2
  go_ret
  exact ⟨rfl, HS5.out.drewN n6, gby_drewN HG5.out n6⟩
 ·rw [decide_eq_false hlt] at HP
  have he := HPO.out hlt
  subst he
  clear HN HPO hlt
  go_enter Tryz.func108, Tryz.ntmps108
  go_wp2_with fail
  refine HG.out.mono ?_
  rintro e w1 ⟨rfl, h1, h2⟩
  have H1 := Lib.hid h1; clear h1
  have HU1 := Lib.hid (HU.out.grown h2)
  have HG1 := Lib.hid h2; clear h2
  go_wp2_with fail
  refine (Q.strings_HasPrefix.calls den ⟨#[45]⟩ false w1 HP.out).mono ?_
  rintro e w2 ⟨rfl, n2, rfl⟩
  have HS3 := Lib.hid (H1.out.drewN n2)
  have HG3 := Lib.hid (gby_drewN HG1.out n2)
  have HU3 := Lib.hid (HU1.out.then (pw_below_drewN (Below.refl _ _) n2))
  generalize w1.drewN n2 = w3 at *
  have c3 := HS3.out.c0
  go_wp2_with fail
  refine (do_Quo s num (itx gc) 0 _ w3 HS3.out (HQ1.out w3 HU3.out.tab)).mono ?_
  rintro e w4 ⟨rfl, h1, h2⟩
  have HS4 := Lib.hid h1; clear h1
  have HU4 := Lib.hid (HU3.out.grown h2)
  have HG4 := Lib.hid (gby_trans HG3.out h2); clear h2
  go_wp2_with fail
  refine (do_Quo s den (itx gc) 0 _ w4 HS4.out (HQ2.out w4 HU4.out.tab)).mono ?_
  rintro e w5 ⟨rfl, h1, h2⟩
  have HS5 := Lib.hid h1; clear h1
  have HG5 := Lib.hid (gby_trans HG4.out h2); clear h2
  go_wp2_with fail
  refine (Q.ratio_joined.calls _ _ _ w5 HJ.out).mono ?_
  rintro e w6 ⟨rfl, n6, rfl⟩
  go_wp2
  go_ret
  exact ⟨rfl, HS5.out.drewN n6, gby_drewN HG5.out n6⟩
end Go.Proofs.YtkdpcgmnkifbbaaGreatDoor
end
section
namespace Go.Proofs.YtkdpcgmnkifbbaaGreatDoor
open Go.RowKit Go.Proofs.YtkdpcgmnkifbbaaGreatDoorW.PrintWords Go.Proofs.YtkdpcgmnkifbbaaGreatDoorW.PrintMore
theorem lit0 (W : World) (x y : Value) (T : TypeId) : (W.alloc (.cells #[x, y] T)).cell? ⟨W.heap.size, 0, none⟩ = some x := by
 have h : (W.alloc (.cells #[x, y] T)).heap[W.heap.size]? = some (.cells #[x, y] T) := by
  rw [show (W.alloc (.cells #[x, y] T)).heap = W.heap.push (.cells #[x, y] T) from rfl, Array.getElem?_push_size]
 unfold World.cell?
 simp only
 rw [h]; rfl
theorem lit1 (W : World) (x y : Value) (T : TypeId) : (W.alloc (.cells #[x, y] T)).cell? ⟨W.heap.size, 1, none⟩ = some y := by
 have h : (W.alloc (.cells #[x, y] T)).heap[W.heap.size]? = some (.cells #[x, y] T) := by
  rw [show (W.alloc (.cells #[x, y] T)).heap = W.heap.push (.cells #[x, y] T) from rfl, Array.getElem?_push_size]
 unfold World.cell?
 simp only
 rw [h]; rfl
theorem mulLit (s : Nat) (a b : ByteArray) (e : Int) (W w0 : World) (T : TypeId) (hs : Sm W s e) (ha : chk a = 0) (hb : chk b = 0) (hu : Up W s w0) :
  Calls Tryz.prog 71 #[.pointer (some ⟨s, 0, none⟩), .slice (some ⟨W.heap.size, 0, none⟩) 2 2] (W.alloc (.cells #[.string a, .string b] T)) (fun e' w' => e' = .returned (.string (mres e (ival a * ival b)).1) ∧ Sm w' s (mres e (ival a * ival b)).2 ∧ W.grownBy w' (some s)) := by
 have za : a.size ≤ 9223372036854775807 := by have := chk_size ha; omega
 have zb : b.size ≤ 9223372036854775807 := by have := chk_size hb; omega
 have h := mul2_calls s W.heap.size 2 a b e (W.alloc (.cells #[.string a, .string b] T)) w0 (hs.alloc _) (lit0 W _ _ T) (lit1 W _ _ T) (by have := hs.lt; omega) (by simp) za zb (hu.then ((Below.refl _ _).alloc (Nat.le_refl _) _))
 rw [mul2_eq e ha hb] at h
 refine h.mono ?_
 rintro e' w' ⟨h1, h2, h3⟩
 exact ⟨h1, h2, gby_trans (gby_alloc (gby_refl W _) _) h3⟩
def ClosPost (w : World) (s : Nat) (x z : Int) (ok : Prop) (e : Ending) (w' : World) : Prop := ∃ (t1 t2 : ByteArray) (err : Int), e = .returned (.tuple #[.string t1, .string t2]) ∧ Sm w' s err ∧ w.grownBy w' (some s) ∧ ((ok ∧ err = 0 ∧ t1 = itx x ∧ t2 = itx z) ∨ (¬ ok ∧ err = 11))
theorem mres_fits {v : Int} (h : fits v) : mres 0 v = (itx v, 0) := by unfold mres; rw [if_neg (fun h => h rfl), if_pos h]
theorem mres_long {v : Int} (h : ¬ fits v) : mres 0 v = (⟨#[48]⟩, 11) := by unfold mres; rw [if_neg (fun h => h rfl), if_neg h]
theorem mres_err (v : Int) : mres 11 v = (⟨#[48]⟩, 11) := by unfold mres; rw [if_pos (by decide)]
theorem mres_size (e v : Int) : (mres e v).1.size ≤ 9223372036854775807 := by
 unfold mres; split
 ·show (1 : Nat) ≤ _; decide
 ·split
  ·rename_i h; have := chk_size (a := itx v) (by rw [chk_itx, if_pos h]); show (itx v).size ≤ _; omega
  ·show (1 : Nat) ≤ _; decide
theorem chk_fits {v : Int} (h : fits v) : chk (itx v) = 0 := by rw [chk_itx, if_pos h]
def sumR (op : Int → Int → Int) (x y : Int) : ByteArray × Int := dos (mres (mres 0 x).2 y).2 (two (mres 0 x).1 (mres (mres 0 x).2 y).1 (kept (op (ival (mres 0 x).1) (ival (mres (mres 0 x).2 y).1))))
theorem sumR_eq (op : Int → Int → Int) (x y : Int) : (fits x ∧ fits y ∧ fits (op x y) ∧ sumR op x y = (itx (op x y), 0)) ∨ (¬ (fits x ∧ fits y ∧ fits (op x y)) ∧ sumR op x y = (⟨#[48]⟩, 11)) := by
 unfold sumR
 by_cases hx : fits x
 ·rw [mres_fits hx]
  by_cases hy : fits y
  ·rw [mres_fits hy]
   simp only
   rw [two_go (chk_fits hx) (chk_fits hy), ival_itx, ival_itx, dos_kept]
   by_cases ho : fits (op x y)
   ·rw [mres_fits ho]; exact .inl ⟨hx, hy, ho, rfl⟩
   ·rw [mres_long ho]; exact .inr ⟨fun h => ho h.2.2, rfl⟩
  ·rw [mres_long hy, dos_err (by decide)]; exact .inr ⟨fun h => hy h.2.1, rfl⟩
 ·rw [mres_long hx, mres_err, dos_err (by decide)]; exact .inr ⟨fun h => hx h.1, rfl⟩
theorem last_post {w w' : World} {s : Nat} {op : Int → Int → Int} {x y z : Int} (hs : Sm w' s (mres (sumR op x y).2 z).2) (hg : w.grownBy w' (some s)) :
  ClosPost w s (op x y) z (fits x ∧ fits y ∧ fits (op x y) ∧ fits z) (.returned (.tuple #[.string (sumR op x y).1, .string (mres (sumR op x y).2 z).1])) w' := by
 refine ⟨_, _, _, rfl, hs, hg, ?_⟩
 rcases sumR_eq op x y with ⟨h1, h2, h3, h4⟩ | ⟨h1, h4⟩
 ·rw [h4]
  by_cases hz : fits z
  ·rw [mres_fits hz]; exact .inl ⟨⟨h1, h2, h3, hz⟩, rfl, rfl, rfl⟩
  ·rw [mres_long hz]; exact .inr ⟨fun h => hz h.2.2.2, rfl⟩
 ·rw [h4, mres_err]; exact .inr ⟨fun h => h1 ⟨h.1, h.2.1, h.2.2.1⟩, rfl⟩
theorem last_post2 {w w' : World} {s : Nat} {x z : Int} (hs : Sm w' s (mres (mres 0 x).2 z).2) (hg : w.grownBy w' (some s)) :
  ClosPost w s x z (fits x ∧ fits z) (.returned (.tuple #[.string (mres 0 x).1, .string (mres (mres 0 x).2 z).1])) w' := by
 refine ⟨_, _, _, rfl, hs, hg, ?_⟩
 by_cases hx : fits x
 ·rw [mres_fits hx]
  by_cases hz : fits z
  ·rw [mres_fits hz]; exact .inl ⟨⟨hx, hz⟩, rfl, rfl, rfl⟩
  ·rw [mres_long hz]; exact .inr ⟨fun h => hz h.2, rfl⟩
 ·rw [mres_long hx, mres_err]; exact .inr ⟨fun h => hx h.1, rfl⟩
set_option maxRecDepth 100000 in
set_option maxHeartbeats 4000000 in
theorem clos_Sub (s : Nat) (n p m q : ByteArray) (w w0 : World) (hs : Sm w s 0) (hn : chk n = 0) (hp : chk p = 0) (hm : chk m = 0) (hq : chk q = 0) (hu : Up w s w0) :
  Calls Tryz.prog 84 #[.pointer (some ⟨s, 0, none⟩), .string n, .string p, .string m, .string q] w (ClosPost w s (ival n * ival q - ival m * ival p) (ival p * ival q) (fits (ival n * ival q) ∧ fits (ival m * ival p) ∧ fits (ival n * ival q - ival m * ival p) ∧ fits (ival p * ival q))) := by
 have HS0 := Lib.hid hs; clear hs
 have HU0 := Lib.hid hu; clear hu
 have Hn := Lib.hid hn; clear hn
 have Hp := Lib.hid hp; clear hp
 have Hm := Lib.hid hm; clear hm
 have Hq := Lib.hid hq; clear hq
 go_enter Tryz.func84, Tryz.ntmps84
 go_wp2_with fail
 refine (mulLit s n q 0 w w0 _ HS0.out Hn.out Hq.out HU0.out).mono ?_
 rintro e w1 ⟨rfl, h1, h2⟩
 have HS1 := Lib.hid h1; clear h1
 have HU1 := Lib.hid (HU0.out.grown h2)
 have HG1 := Lib.hid h2; clear h2
 go_wp2_with fail
 refine (mulLit s m p _ w1 w0 _ HS1.out Hm.out Hp.out HU1.out).mono ?_
 rintro e w2 ⟨rfl, h1, h2⟩
 have HS2 := Lib.hid h1; clear h1
 have HU2 := Lib.hid (HU1.out.grown h2)
 have HG2 := Lib.hid (gby_trans HG1.out h2); clear h2
 go_wp2_with fail
 refine (sumsSub s _ _ _ w2 HS2.out (mres_size _ _) (mres_size _ _) HU2.out.tab).mono ?_
 rintro e w3 ⟨rfl, h1, h2⟩
 have HS3 : Hid (Sm w3 s (sumR (· - ·) (ival n * ival q) (ival m * ival p)).2) := Lib.hid h1; clear h1
 have HU3 := Lib.hid (HU2.out.grown h2)
 have HG3 := Lib.hid (gby_trans HG2.out h2); clear h2
 go_wp2_with fail
 refine (mulLit s p q (sumR (· - ·) (ival n * ival q) (ival m * ival p)).2 w3 w0 _ HS3.out Hp.out Hq.out HU3.out).mono ?_
 rintro e w4 ⟨rfl, h1, h2⟩
 have HS4 := Lib.hid h1; clear h1
 have HU4 := Lib.hid (HU3.out.grown h2)
 have HG4 := Lib.hid (gby_trans HG3.out h2); clear h2
 go_wp2
 go_ret2
 exact last_post (op := (· - ·)) HS4.out HG4.out
set_option maxRecDepth 100000 in
set_option maxHeartbeats 4000000 in
theorem clos_Mul (s : Nat) (n p m q : ByteArray) (w w0 : World) (hs : Sm w s 0) (hn : chk n = 0) (hp : chk p = 0) (hm : chk m = 0) (hq : chk q = 0) (hu : Up w s w0) :
  Calls Tryz.prog 83 #[.pointer (some ⟨s, 0, none⟩), .string n, .string p, .string m, .string q] w (ClosPost w s (ival n * ival m) (ival p * ival q) (fits (ival n * ival m) ∧ fits (ival p * ival q))) := by
 have HS0 := Lib.hid hs; clear hs
 have HU0 := Lib.hid hu; clear hu
 have Hn := Lib.hid hn; clear hn
 have Hp := Lib.hid hp; clear hp
 have Hm := Lib.hid hm; clear hm
 have Hq := Lib.hid hq; clear hq
 go_enter Tryz.func83, Tryz.ntmps83
 go_wp2_with fail
 refine (mulLit s n m 0 w w0 _ HS0.out Hn.out Hm.out HU0.out).mono ?_
 rintro e w1 ⟨rfl, h1, h2⟩
 have HS1 := Lib.hid h1; clear h1
 have HU1 := Lib.hid (HU0.out.grown h2)
 have HG1 := Lib.hid h2; clear h2
 go_wp2_with fail
 refine (mulLit s p q _ w1 w0 _ HS1.out Hp.out Hq.out HU1.out).mono ?_
 rintro e w2 ⟨rfl, h1, h2⟩
 have HS2 := Lib.hid h1; clear h1
 have HU2 := Lib.hid (HU1.out.grown h2)
 have HG2 := Lib.hid (gby_trans HG1.out h2); clear h2
 go_wp2
 go_ret2
 exact last_post2 HS2.out HG2.out
end Go.Proofs.YtkdpcgmnkifbbaaGreatDoor
end
section
namespace Go.Proofs.YtkdpcgmnkifbbaaGreatDoor
open Go.RowKit Go.Proofs.YtkdpcgmnkifbbaaGreatDoorW.PrintWords Go.Proofs.YtkdpcgmnkifbbaaGreatDoorW.PrintMore
def rchks : List ByteArray → Int
 | [] => 0
 | a :: l => if rchk a = 0 then rchks l else rchk a
theorem checks_l0 (l : List ByteArray) (hs : ∀ a ∈ l, a.size ≤ 4611686018427387904) (hn : l.length ≤ 4611686018427387904) (i k : Nat) (hi : i ≤ l.length) (hk : l.length - i + 3 ≤ k) : Q.ratio_checks.l0 k l (l.length : Int) (i : Int) = some (rchks (l.drop i)) := by
 induction k generalizing i with
 | zero => omega
 | succ k ih =>
  rw [Q.ratio_checks.l0]
  by_cases h : i < l.length
  ·rw [if_pos (by omega), if_pos (by omega), if_pos (by omega)]
   have e1 : rdOf ByteArray.empty l (i : Int) = l[i] := by simp [rdOf, List.getD, List.getElem?_eq_getElem h]
   obtain ⟨j, rfl⟩ : ∃ j, k = j + 2 := ⟨k - 2, by omega⟩
   rw [e1, rcheck_f _ (hs _ (List.getElem_mem h)) j, Option.bind_some, List.drop_eq_getElem_cons h]
   unfold rchks
   by_cases h0 : rchk l[i] = 0
   ·rw [if_pos h0, if_pos h0]
    have := ih (i + 1) (by omega) (by omega)
    rw [← this, IntWalk.wrap64_in _ (by omega)]; rfl
   ·rw [if_neg h0, if_neg h0]
  ·rw [if_neg (by omega), List.drop_eq_nil_of_le (by omega)]; rfl
theorem checks_two (a b : ByteArray) (ha : a.size ≤ 4611686018427387904) (hb : b.size ≤ 4611686018427387904) : Q.ratio_checks.f 6 [a, b] = some (rchks [a, b]) := by
 have := checks_l0 [a, b] (by intro x hx; simp at hx; rcases hx with rfl | rfl <;> assumption) (by simp) 0 6 (by simp) (by simp)
 exact this
def rtwo (a b : ByteArray) (r : ByteArray × Int) : ByteArray × Int := if rchk a ≠ 0 then (⟨#[]⟩, rchk a) else if rchk b ≠ 0 then (⟨#[]⟩, rchk b) else r
theorem rchks_two {a b : ByteArray} (h : rchks [a, b] = 0) : rchk a = 0 ∧ rchk b = 0 := by
 unfold rchks rchks rchks at h
 by_cases h1 : rchk a = 0
 ·rw [if_pos h1] at h
  by_cases h2 : rchk b = 0
  ·exact ⟨h1, h2⟩
  ·rw [if_neg h2] at h; exact absurd h h2
 ·rw [if_neg h1] at h; exact absurd h h1
theorem rtwo_bad {a b : ByteArray} {r : ByteArray × Int} (h : rchks [a, b] ≠ 0) : rtwo a b r = (⟨#[]⟩, rchks [a, b]) := by
 unfold rtwo
 unfold rchks rchks rchks at *
 by_cases h1 : rchk a = 0
 ·rw [if_pos h1] at h ⊢
  by_cases h2 : rchk b = 0
  ·rw [if_pos h2] at h; exact absurd rfl h
  ·rw [if_neg h2] at h ⊢
   rw [if_neg (fun h => h h1), if_pos h2]
 ·rw [if_neg h1] at h ⊢
  rw [if_pos h1]
theorem rtwo_ok {a b : ByteArray} {r : ByteArray × Int} (h : rchks [a, b] = 0) : rtwo a b r = r := by
 obtain ⟨h1, h2⟩ := rchks_two h
 unfold rtwo
 rw [if_neg (fun h => h h1), if_neg (fun h => h h2)]
def rnum (a : ByteArray) : Int := ival (cutF a).1
def rden (a : ByteArray) : Int := ival (cutF a).2.1
theorem rchk_parts {a : ByteArray} (h : rchk a = 0) : chk (cutF a).1 = 0 ∧ chk (cutF a).2.1 = 0 ∧ 0 < rden a := by
 unfold rchk at h
 split at h
 ·cases h
 ·split at h
  ·cases h
  ·rename_i h1 h2
   have e1 : chk (cutF a).1 = 0 := Classical.byContradiction fun h3 => h2 (.inl h3)
   have e2 : chk (cutF a).2.1 = 0 := Classical.byContradiction fun h3 => h2 (.inr h3)
   refine ⟨e1, e2, ?_⟩
   unfold rden
   split at h
   ·rename_i h3
    unfold cutF at h3 ⊢
    cases hc : cutL a.data.toList with
    | none => simp only; rw [one_text, ival_itx]; decide
    | some p => rw [hc] at h3; cases h3
   ·split at h
    ·rename_i h4; omega
    ·cases h
def madeR (x z : Int) (ok : Prop) [Decidable ok] : ByteArray × Int := if ok then (rtx (Rat.divInt x z), 0) else (⟨#[]⟩, 11)
theorem itx_nz {v : Int} (h : v ≠ 0) : ((itx v).toList == ([48] : List UInt8)) = false := by
 rw [beq_eq_false_iff_ne]
 intro h2
 apply h
 refine itx_inj ?_
 rw [itx_zero, ← Lib.mk_data (itx v), ← Lib.toList_data, h2]
set_option maxRecDepth 100000 in
set_option maxHeartbeats 8000000 in
theorem made_Sub (a b : ByteArray) (ha : a.size ≤ 4611686018427387904) (hb : b.size ≤ 4611686018427387904) (w : World) (ht : Tabs w) :
  Calls Tryz.prog 82 #[.string a, .string b, .func (.func 84) #[] #[]] w (TwoPost w (rtwo a b (madeR (rnum a * rden b - rnum b * rden a) (rden a * rden b) (fits (rnum a * rden b) ∧ fits (rnum b * rden a) ∧ fits (rnum a * rden b - rnum b * rden a) ∧ fits (rden a * rden b))))) := by
 have hall := checks_two a b ha hb
 have HCA := Lib.hid (cut_f a ha)
 have HCB := Lib.hid (cut_f b hb)
 have HT := Lib.hid ht; clear ht
 have HAL := Lib.hid hall; clear hall ha hb
 obtain ⟨y, hy⟩ : ∃ y : List ByteArray, y = [a, b] := ⟨_, rfl⟩
 have Ny := Lib.hid hy
 rw [← hy] at HAL
 by_cases hc : rchks [a, b] = 0
 ·rw [← hy] at hc
  rw [hc] at HAL
  rw [hy] at hc
  clear hy
  obtain ⟨h1, h2⟩ := rchks_two hc
  rw [rtwo_ok hc]
  clear hc
  have p1 := rchk_parts h1
  have p2 := rchk_parts h2
  have hz : rden a * rden b ≠ 0 := by
   have := Int.mul_pos p1.2.2 p2.2.2; omega
  have P1 := Lib.hid p1; clear p1 h1
  have P2 := Lib.hid p2; clear p2 h2
  have HZ := Lib.hid hz; clear hz
  go_enter Tryz.func82, Tryz.ntmps82
  go_wp2_with (first | ((with_reducible refine gate_dst (N := 21) rfl ?_); refine Kd.R_lit Kd.string _ 25 ?hg (N := 21) ?hd (xs := ([a, b] : List ByteArray)) (inner := [.string a, .string b]) (ok := fun _ => True) (okp := fun _ => True) ?hr ?hp (fun _ hk => hk) trivial (Below.refl _ _) (Nat.le_refl _) (by simp) ?_; (case hd => rfl); (case hg => rfl); (case hr => first | (go_simp; done) | (go_simp; rfl)); (case hp => exact (Reps.one (show Kd.M Kd.string _ _ _ a [.string a] from rfl) (Reps.one (show Kd.M Kd.string _ _ _ b [.string b] from rfl) (Reps.none _ _)))); intro v1 w1 ho hb1 hg_ hnew_; clear hg_ hnew_; rw [← Ny.out] at ho; have HO := Lib.hid ho; clear ho; have HB1 := Lib.hid hb1; clear hb1; obtain ⟨Ao, co, eo⟩ := Kd.R_slice HO.out; subst eo))
  refine (Q.ratio_checks.calls 6 Ao co y 0 w1 (Kd.R_reads' HO.out).2.2 (Kd.R_reads' HO.out).2.1 HAL.out (Aside0.mk (HT.out.below HB1.out))).mono ?_
  rintro e w2 ⟨rfl, hb2⟩
  have HB2 := Lib.hid (below_then HB1.out HB1.out.size hb2); clear hb2 HO
  go_wp2_with fail
  refine (Q.ratio_cut.calls a (cutF a).1 (cutF a).2.1 (cutF a).2.2 w2 HCA.out).mono ?_
  rintro e w3 ⟨rfl, hb3⟩
  have HB3 := Lib.hid (below_then HB2.out HB2.out.size hb3); clear hb3
  go_wp2_with fail
  refine (Q.ratio_cut.calls b (cutF b).1 (cutF b).2.1 (cutF b).2.2 w3 HCB.out).mono ?_
  rintro e w4 ⟨rfl, hb4⟩
  have HB4 := Lib.hid (below_then HB3.out HB3.out.size hb4); clear hb4
  go_wp2_with fail
  have hs5 : Sm (w4.alloc (.cells #[.int .i64 0] 100)) w4.heap.size 0 := Sm.fresh w4
  have hu5 : Up (w4.alloc (.cells #[.int .i64 0] 100)) w4.heap.size w := ⟨HT.out, HB4.out.size, HB4.out.alloc HB4.out.size _⟩
  generalize w4.alloc (.cells #[.int .i64 0] 100) = w5 at hs5 hu5 ⊢
  have HS5 := Lib.hid hs5; clear hs5
  have HU5 := Lib.hid hu5; clear hu5
  refine (clos_Sub w4.heap.size (cutF a).1 (cutF a).2.1 (cutF b).1 (cutF b).2.1 w5 w HS5.out P1.out.1 P1.out.2.1 P2.out.1 P2.out.2.1 HU5.out).mono ?_
  rintro e w6 ⟨t1, t2, err, rfl, hs6, hg6, hcase⟩
  have HU6 := Lib.hid (HU5.out.grown hg6); clear hg6
  have c6 := hs6.c0
  have HS6 := Lib.hid hs6; clear hs6
  rcases hcase with ⟨hok, rfl, rfl, rfl⟩ | ⟨hok, rfl⟩
  ·have hr : madeR (rnum a * rden b - rnum b * rden a) (rden a * rden b) (fits (rnum a * rden b) ∧ fits (rnum b * rden a) ∧ fits (rnum a * rden b - rnum b * rden a) ∧ fits (rden a * rden b)) = (rtx (Rat.divInt (rnum a * rden b - rnum b * rden a) (rden a * rden b)), 0) := if_pos hok
   have HX := Lib.hid (chk_fits hok.2.2.1)
   have HY := Lib.hid (chk_fits hok.2.2.2)
   have hnz := itx_nz HZ.out
   clear hok
   obtain ⟨X, hX⟩ : ∃ X : Int, X = rnum a * rden b - rnum b * rden a := ⟨_, rfl⟩
   obtain ⟨Z, hZ⟩ : ∃ Z : Int, Z = rden a * rden b := ⟨_, rfl⟩
   have eX : (ival (cutF a).1 * ival (cutF b).2.1 - ival (cutF b).1 * ival (cutF a).2.1) = X := hX.symm
   have eZ : (ival (cutF a).2.1 * ival (cutF b).2.1) = Z := hZ.symm
   have HRR := Lib.hid (hr.trans (show _ = (rtx (Rat.divInt X Z), (0 : Int)) by rw [hX, hZ])); clear hr
   rw [← hZ] at HZ hnz
   rw [eX] at HX
   rw [eZ] at HY
   rw [eX, eZ]
   clear hX hZ eX eZ
   go_wp2_with fail
   refine (lowest_calls w4.heap.size (itx X) (itx Z) w6 w HS6.out HX.out HY.out (by rw [ival_itx]; exact HZ.out) HU6.out).mono ?_
   rintro e w7 ⟨rfl, hs7, hg7⟩
   rw [ival_itx, ival_itx]
   have c7 := hs7.c0
   have HU7 := Lib.hid (HU6.out.grown hg7); clear hg7 hs7 c6
   go_wp2_with fail
   go_region
   go_wp2
   go_ret2
   exact ⟨by rw [HRR.out]; rfl, HU7.out.below.drew⟩
  ·have hr : madeR (rnum a * rden b - rnum b * rden a) (rden a * rden b) (fits (rnum a * rden b) ∧ fits (rnum b * rden a) ∧ fits (rnum a * rden b - rnum b * rden a) ∧ fits (rden a * rden b)) = (⟨#[]⟩, 11) := if_neg hok
   have HRR := Lib.hid hr
   clear hr hok
   go_wp2_with fail
   go_region
   go_wp2
   go_ret2
   exact ⟨by rw [HRR.out]; rfl, HU6.out.below.drew⟩
 ·rw [rtwo_bad hc]
  rw [show rchks y = rchks [a, b] by rw [hy]] at HAL
  generalize rchks [a, b] = c at HAL hc ⊢
  clear hy
  have hc2 : (c == 0) = false := beq_eq_false_iff_ne.2 hc
  clear hc
  go_enter Tryz.func82, Tryz.ntmps82
  go_wp2_with (first | ((with_reducible refine gate_dst (N := 21) rfl ?_); refine Kd.R_lit Kd.string _ 25 ?hg (N := 21) ?hd (xs := ([a, b] : List ByteArray)) (inner := [.string a, .string b]) (ok := fun _ => True) (okp := fun _ => True) ?hr ?hp (fun _ hk => hk) trivial (Below.refl _ _) (Nat.le_refl _) (by simp) ?_; (case hd => rfl); (case hg => rfl); (case hr => first | (go_simp; done) | (go_simp; rfl)); (case hp => exact (Reps.one (show Kd.M Kd.string _ _ _ a [.string a] from rfl) (Reps.one (show Kd.M Kd.string _ _ _ b [.string b] from rfl) (Reps.none _ _)))); intro v1 w1 ho hb1 hg_ hnew_; clear hg_ hnew_; rw [← Ny.out] at ho; have HO := Lib.hid ho; clear ho; have HB1 := Lib.hid hb1; clear hb1; obtain ⟨Ao, co, eo⟩ := Kd.R_slice HO.out; subst eo))
  refine (Q.ratio_checks.calls 6 Ao co y c w1 (Kd.R_reads' HO.out).2.2 (Kd.R_reads' HO.out).2.1 HAL.out (Aside0.mk (HT.out.below HB1.out))).mono ?_
  rintro e w2 ⟨rfl, hb2⟩
  have HB2 := Lib.hid (below_then HB1.out HB1.out.size hb2); clear hb2 HO
  go_wp2
  go_ret2
  exact ⟨rfl, HB2.out⟩
set_option maxRecDepth 100000 in
set_option maxHeartbeats 8000000 in
theorem rSub_calls (a b : ByteArray) (ha : a.size ≤ 4611686018427387904) (hb : b.size ≤ 4611686018427387904) (w : World) (ht : Tabs w) :
  Calls Tryz.prog 46 #[.string a, .string b] w (TwoPost w (rtwo a b (madeR (rnum a * rden b - rnum b * rden a) (rden a * rden b) (fits (rnum a * rden b) ∧ fits (rnum b * rden a) ∧ fits (rnum a * rden b - rnum b * rden a) ∧ fits (rden a * rden b))))) := by
 have H := Lib.hid (made_Sub a b ha hb w ht); clear ha hb ht
 generalize rtwo a b (madeR (rnum a * rden b - rnum b * rden a) (rden a * rden b) (fits (rnum a * rden b) ∧ fits (rnum b * rden a) ∧ fits (rnum a * rden b - rnum b * rden a) ∧ fits (rden a * rden b))) = r at H ⊢
 go_enter Tryz.func46, Tryz.ntmps46
 go_wp2_with fail
 refine H.out.mono ?_
 rintro e w1 ⟨rfl, hb1⟩
 have HB1 := Lib.hid hb1; clear hb1
 go_wp2
 go_ret2
 exact ⟨rfl, HB1.out⟩
set_option maxRecDepth 100000 in
set_option maxHeartbeats 8000000 in
theorem made_Mul (a b : ByteArray) (ha : a.size ≤ 4611686018427387904) (hb : b.size ≤ 4611686018427387904) (w : World) (ht : Tabs w) :
  Calls Tryz.prog 82 #[.string a, .string b, .func (.func 83) #[] #[]] w (TwoPost w (rtwo a b (madeR (rnum a * rnum b) (rden a * rden b) (fits (rnum a * rnum b) ∧ fits (rden a * rden b))))) := by
 have hall := checks_two a b ha hb
 have HCA := Lib.hid (cut_f a ha)
 have HCB := Lib.hid (cut_f b hb)
 have HT := Lib.hid ht; clear ht
 have HAL := Lib.hid hall; clear hall ha hb
 obtain ⟨y, hy⟩ : ∃ y : List ByteArray, y = [a, b] := ⟨_, rfl⟩
 have Ny := Lib.hid hy
 rw [← hy] at HAL
 by_cases hc : rchks [a, b] = 0
 ·rw [← hy] at hc
  rw [hc] at HAL
  rw [hy] at hc
  clear hy
  obtain ⟨h1, h2⟩ := rchks_two hc
  rw [rtwo_ok hc]
  clear hc
  have p1 := rchk_parts h1
  have p2 := rchk_parts h2
  have hz : rden a * rden b ≠ 0 := by
   have := Int.mul_pos p1.2.2 p2.2.2; omega
  have P1 := Lib.hid p1; clear p1 h1
  have P2 := Lib.hid p2; clear p2 h2
  have HZ := Lib.hid hz; clear hz
  go_enter Tryz.func82, Tryz.ntmps82
  go_wp2_with (first | ((with_reducible refine gate_dst (N := 21) rfl ?_); refine Kd.R_lit Kd.string _ 25 ?hg (N := 21) ?hd (xs := ([a, b] : List ByteArray)) (inner := [.string a, .string b]) (ok := fun _ => True) (okp := fun _ => True) ?hr ?hp (fun _ hk => hk) trivial (Below.refl _ _) (Nat.le_refl _) (by simp) ?_; (case hd => rfl); (case hg => rfl); (case hr => first | (go_simp; done) | (go_simp; rfl)); (case hp => exact (Reps.one (show Kd.M Kd.string _ _ _ a [.string a] from rfl) (Reps.one (show Kd.M Kd.string _ _ _ b [.string b] from rfl) (Reps.none _ _)))); intro v1 w1 ho hb1 hg_ hnew_; clear hg_ hnew_; rw [← Ny.out] at ho; have HO := Lib.hid ho; clear ho; have HB1 := Lib.hid hb1; clear hb1; obtain ⟨Ao, co, eo⟩ := Kd.R_slice HO.out; subst eo))
  refine (Q.ratio_checks.calls 6 Ao co y 0 w1 (Kd.R_reads' HO.out).2.2 (Kd.R_reads' HO.out).2.1 HAL.out (Aside0.mk (HT.out.below HB1.out))).mono ?_
  rintro e w2 ⟨rfl, hb2⟩
  have HB2 := Lib.hid (below_then HB1.out HB1.out.size hb2); clear hb2 HO
  go_wp2_with fail
  refine (Q.ratio_cut.calls a (cutF a).1 (cutF a).2.1 (cutF a).2.2 w2 HCA.out).mono ?_
  rintro e w3 ⟨rfl, hb3⟩
  have HB3 := Lib.hid (below_then HB2.out HB2.out.size hb3); clear hb3
  go_wp2_with fail
  refine (Q.ratio_cut.calls b (cutF b).1 (cutF b).2.1 (cutF b).2.2 w3 HCB.out).mono ?_
  rintro e w4 ⟨rfl, hb4⟩
  have HB4 := Lib.hid (below_then HB3.out HB3.out.size hb4); clear hb4
  go_wp2_with fail
  have hs5 : Sm (w4.alloc (.cells #[.int .i64 0] 100)) w4.heap.size 0 := Sm.fresh w4
  have hu5 : Up (w4.alloc (.cells #[.int .i64 0] 100)) w4.heap.size w := ⟨HT.out, HB4.out.size, HB4.out.alloc HB4.out.size _⟩
  generalize w4.alloc (.cells #[.int .i64 0] 100) = w5 at hs5 hu5 ⊢
  have HS5 := Lib.hid hs5; clear hs5
  have HU5 := Lib.hid hu5; clear hu5
  refine (clos_Mul w4.heap.size (cutF a).1 (cutF a).2.1 (cutF b).1 (cutF b).2.1 w5 w HS5.out P1.out.1 P1.out.2.1 P2.out.1 P2.out.2.1 HU5.out).mono ?_
  rintro e w6 ⟨t1, t2, err, rfl, hs6, hg6, hcase⟩
  have HU6 := Lib.hid (HU5.out.grown hg6); clear hg6
  have c6 := hs6.c0
  have HS6 := Lib.hid hs6; clear hs6
  rcases hcase with ⟨hok, rfl, rfl, rfl⟩ | ⟨hok, rfl⟩
  ·have hr : madeR (rnum a * rnum b) (rden a * rden b) (fits (rnum a * rnum b) ∧ fits (rden a * rden b)) = (rtx (Rat.divInt (rnum a * rnum b) (rden a * rden b)), 0) := if_pos hok
   have HX := Lib.hid (chk_fits hok.1)
   have HY := Lib.hid (chk_fits hok.2)
   have hnz := itx_nz HZ.out
   clear hok
   obtain ⟨X, hX⟩ : ∃ X : Int, X = rnum a * rnum b := ⟨_, rfl⟩
   obtain ⟨Z, hZ⟩ : ∃ Z : Int, Z = rden a * rden b := ⟨_, rfl⟩
   have eX : (ival (cutF a).1 * ival (cutF b).1) = X := hX.symm
   have eZ : (ival (cutF a).2.1 * ival (cutF b).2.1) = Z := hZ.symm
   have HRR := Lib.hid (hr.trans (show _ = (rtx (Rat.divInt X Z), (0 : Int)) by rw [hX, hZ])); clear hr
   rw [← hZ] at HZ hnz
   rw [eX] at HX
   rw [eZ] at HY
   rw [eX, eZ]
   clear hX hZ eX eZ
   go_wp2_with fail
   refine (lowest_calls w4.heap.size (itx X) (itx Z) w6 w HS6.out HX.out HY.out (by rw [ival_itx]; exact HZ.out) HU6.out).mono ?_
   rintro e w7 ⟨rfl, hs7, hg7⟩
   rw [ival_itx, ival_itx]
   have c7 := hs7.c0
   have HU7 := Lib.hid (HU6.out.grown hg7); clear hg7 hs7 c6
   go_wp2_with fail
   go_region
   go_wp2
   go_ret2
   exact ⟨by rw [HRR.out]; rfl, HU7.out.below.drew⟩
  ·have hr : madeR (rnum a * rnum b) (rden a * rden b) (fits (rnum a * rnum b) ∧ fits (rden a * rden b)) = (⟨#[]⟩, 11) := if_neg hok
   have HRR := Lib.hid hr
   clear hr hok
   go_wp2_with fail
   go_region
   go_wp2
   go_ret2
   exact ⟨by rw [HRR.out]; rfl, HU6.out.below.drew⟩
 ·rw [rtwo_bad hc]
  rw [show rchks y = rchks [a, b] by rw [hy]] at HAL
  generalize rchks [a, b] = c at HAL hc ⊢
  clear hy
  have hc2 : (c == 0) = false := beq_eq_false_iff_ne.2 hc
  clear hc
  go_enter Tryz.func82, Tryz.ntmps82
  go_wp2_with (first | ((with_reducible refine gate_dst (N := 21) rfl ?_); refine Kd.R_lit Kd.string _ 25 ?hg (N := 21) ?hd (xs := ([a, b] : List ByteArray)) (inner := [.string a, .string b]) (ok := fun _ => True) (okp := fun _ => True) ?hr ?hp (fun _ hk => hk) trivial (Below.refl _ _) (Nat.le_refl _) (by simp) ?_; (case hd => rfl); (case hg => rfl); (case hr => first | (go_simp; done) | (go_simp; rfl)); (case hp => exact (Reps.one (show Kd.M Kd.string _ _ _ a [.string a] from rfl) (Reps.one (show Kd.M Kd.string _ _ _ b [.string b] from rfl) (Reps.none _ _)))); intro v1 w1 ho hb1 hg_ hnew_; clear hg_ hnew_; rw [← Ny.out] at ho; have HO := Lib.hid ho; clear ho; have HB1 := Lib.hid hb1; clear hb1; obtain ⟨Ao, co, eo⟩ := Kd.R_slice HO.out; subst eo))
  refine (Q.ratio_checks.calls 6 Ao co y c w1 (Kd.R_reads' HO.out).2.2 (Kd.R_reads' HO.out).2.1 HAL.out (Aside0.mk (HT.out.below HB1.out))).mono ?_
  rintro e w2 ⟨rfl, hb2⟩
  have HB2 := Lib.hid (below_then HB1.out HB1.out.size hb2); clear hb2 HO
  go_wp2
  go_ret2
  exact ⟨rfl, HB2.out⟩
set_option maxRecDepth 100000 in
set_option maxHeartbeats 8000000 in
theorem rMul_calls (a b : ByteArray) (ha : a.size ≤ 4611686018427387904) (hb : b.size ≤ 4611686018427387904) (w : World) (ht : Tabs w) :
  Calls Tryz.prog 45 #[.string a, .string b] w (TwoPost w (rtwo a b (madeR (rnum a * rnum b) (rden a * rden b) (fits (rnum a * rnum b) ∧ fits (rden a * rden b))))) := by
 have H := Lib.hid (made_Mul a b ha hb w ht); clear ha hb ht
 generalize rtwo a b (madeR (rnum a * rnum b) (rden a * rden b) (fits (rnum a * rnum b) ∧ fits (rden a * rden b))) = r at H ⊢
 go_enter Tryz.func45, Tryz.ntmps45
 go_wp2_with fail
 refine H.out.mono ?_
 rintro e w1 ⟨rfl, hb1⟩
 have HB1 := Lib.hid hb1; clear hb1
 go_wp2
 go_ret2
 exact ⟨rfl, HB1.out⟩
end Go.Proofs.YtkdpcgmnkifbbaaGreatDoor
end
