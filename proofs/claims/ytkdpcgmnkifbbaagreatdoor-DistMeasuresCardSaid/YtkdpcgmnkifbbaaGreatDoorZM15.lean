/- Joined by a program of this session out of its texts, with only what the last theorem needs: Rr Ra Rb Rc Da Db Dc Ri. No conditions but those stated. -/
import Derived.Test.YtkdpcgmnkifbbaaGreatDoorZM14
set_option linter.unusedVariables false
set_option linter.unusedSimpArgs false
namespace Go.Proofs.YtkdpcgmnkifbbaaGreatDoorW.PrintMore
end Go.Proofs.YtkdpcgmnkifbbaaGreatDoorW.PrintMore
namespace Go.Proofs.YtkdpcgmnkifbbaaGreatDoorW.PrintWords
end Go.Proofs.YtkdpcgmnkifbbaaGreatDoorW.PrintWords
section
namespace Go.Proofs.YtkdpcgmnkifbbaaGreatDoor
open Go.RowKit Go.Proofs.YtkdpcgmnkifbbaaGreatDoorW.PrintWords Go.Proofs.YtkdpcgmnkifbbaaGreatDoorW.PrintMore
def rtx (q : Rat) : ByteArray := if q.den = 1 then itx q.num else itx q.num ++ ⟨#[47]⟩ ++ itx q.den
def gdiv (u v : Int) : Int := if v < 0 then -gcdv u v else gcdv u v
theorem gcdv_pos {u v : Int} (hv : v ≠ 0) : 0 < gcdv u v := by
 unfold gcdv
 have : 0 < Nat.gcd u.natAbs v.natAbs := Nat.gcd_pos_of_pos_right _ (by omega)
 omega
theorem gdiv_ne {u v : Int} (hv : v ≠ 0) : gdiv u v ≠ 0 := by
 have := gcdv_pos (u := u) hv
 unfold gdiv; split <;> omega
theorem gcd_eq (u v : Int) : ((v.gcd u : Nat) : Int) = gcdv u v := by
 unfold gcdv Int.gcd; rw [Nat.gcd_comm]
theorem gcdv_dvd_left (u v : Int) : gcdv u v ∣ u := by
 unfold gcdv; exact Int.ofNat_dvd_left.2 (Nat.gcd_dvd_left _ _)
theorem gcdv_dvd_right (u v : Int) : gcdv u v ∣ v := by
 unfold gcdv; exact Int.ofNat_dvd_left.2 (Nat.gcd_dvd_right _ _)
theorem low_num {u v : Int} (hv : v ≠ 0) : u.fdiv (gdiv u v) = (Rat.divInt u v).num := by
 have hp := gcdv_pos (u := u) hv
 obtain ⟨c, hc⟩ := gcdv_dvd_left u v
 rw [Rat.num_divInt, gcd_eq]
 unfold gdiv
 generalize gcdv u v = g at *
 subst hc
 by_cases h : v < 0
 ·rw [if_pos h, Int.sign_eq_neg_one_of_neg h]
  rw [show (-1 : Int) * (g * c) = g * -c by rw [Int.mul_neg, Int.neg_mul, Int.one_mul], Int.mul_ediv_cancel_left _ (by omega)]
  exact (fdm_of (r := 0) (by omega) (by rw [Int.zero_add, Int.neg_mul_neg]) (by omega) (by omega)).1
 ·rw [if_neg h, Int.sign_eq_one_of_pos (by omega), Int.one_mul, Int.mul_ediv_cancel_left _ (by omega)]
  exact (fdm_of (r := 0) (by omega) (by rw [Int.zero_add]) (by omega) (by omega)).1
theorem low_den {u v : Int} (hv : v ≠ 0) : v.fdiv (gdiv u v) = ((Rat.divInt u v).den : Int) := by
 have hp := gcdv_pos (u := u) hv
 obtain ⟨c, hc⟩ := gcdv_dvd_right u v
 rw [Rat.den_divInt, if_neg hv, Int.natCast_ediv, gcd_eq]
 unfold gdiv
 have hv2 := hv
 generalize gcdv u v = g at *
 by_cases h : v < 0
 ·rw [if_pos h, show ((v.natAbs : Nat) : Int) = -v by omega]
  subst hc
  rw [show -(g * c) = g * -c by rw [Int.mul_neg], Int.mul_ediv_cancel_left _ (by omega)]
  exact (fdm_of (r := 0) (by omega) (by rw [Int.zero_add, Int.neg_mul_neg]) (by omega) (by omega)).1
 ·rw [if_neg h, show ((v.natAbs : Nat) : Int) = v by omega]
  subst hc
  rw [Int.mul_ediv_cancel_left _ (by omega)]
  exact (fdm_of (r := 0) (by omega) (by rw [Int.zero_add]) (by omega) (by omega)).1
theorem fits_gcd {u v : Int} (hv : v ≠ 0) (hf : fits v) : fits (gdiv u v) := by
 refine fits_of_le ?_ hf
 have h1 : (gdiv u v).natAbs = Nat.gcd u.natAbs v.natAbs := by unfold gdiv gcdv; split <;> omega
 rw [h1]; exact Nat.gcd_le_right _ (by omega)
theorem hasPrefix_f {a : ByteArray} (h : chk a = 0) : Q.strings_HasPrefix.f a ⟨#[45]⟩ = some (decide (ival a < 0)) := by
 unfold Q.strings_HasPrefix.f Q.stringslite_HasPrefix.f
 have hs : ((⟨#[45]⟩ : ByteArray).size : Int) = 1 := rfl
 have hp : 0 < a.size := by
  rw [Lib.size_eq]
  exact Nat.lt_of_lt_of_le (List.length_pos_iff.2 (form_all (chk_form h)).2) (digs_len _)
 rw [hs, if_pos (by omega), if_pos (by decide), if_pos (by omega)]
 have h1 := form_head a (chk_form h)
 rw [Lib.extract_toList, Lib.toList_data, Option.bind_some, show ((1 : Int)).toNat = 1 from rfl]
 congr 1
 rw [Bool.eq_iff_iff, beq_iff_eq, decide_eq_true_iff, ← h1]
 cases hl : a.data.toList with
 | nil => rw [Lib.size_eq, hl] at hp; simp at hp
 | cons c t => simp
theorem joined_f (u : Int) (d : Nat) (hu : fits u) (hd : fits d) : Q.ratio_joined.f (itx u) (itx d) = some (if d = 1 then itx u else itx u ++ ⟨#[47]⟩ ++ itx d) := by
 have s1 := chk_size (a := itx u) (by rw [chk_itx, if_pos hu])
 have s2 := chk_size (a := itx d) (by rw [chk_itx, if_pos hd])
 have hz : (⟨#[47]⟩ : ByteArray).size = 1 := rfl
 unfold Q.ratio_joined.f
 by_cases h : d = 1
 ·rw [if_pos ((itx_one_list _).2 (by omega)), if_pos h]
 ·rw [if_neg (fun h2 => h (by have := (itx_one_list _).1 h2; omega)), if_neg h, if_pos (by omega), if_pos (by rw [ByteArray.size_append, hz]; omega)]
theorem sub_calls (a b : ByteArray) (ha : a.size ≤ 9223372036854775807) (hb : b.size ≤ 9223372036854775807) (w : World) (ht : Tabs w) :
  Calls Tryz.prog 120 #[.string a, .string b] w (TwoPost w (two a b (kept (ival a - ival b)))) := by
 have := L.whole_Sub.calls a b (two a b (kept (ival a - ival b))).1 (two a b (kept (ival a - ival b))).2 w (sub_f a b ha hb) ⟨ht⟩
 exact this
theorem quo_calls (a b : ByteArray) (ha : a.size ≤ 9223372036854775807) (hb : b.size ≤ 9223372036854775807) (w : World) (ht : Tabs w) :
  Calls Tryz.prog 61 #[.string a, .string b] w (TwoPost w (quoF a b)) := by
 have := L.whole_Quo.calls a b (quoF a b).1 (quoF a b).2 w (quo_f a b ha hb) ⟨ht⟩
 exact this
theorem sumsSub (s : Nat) (a b : ByteArray) (e : Int) (w : World) (hs : Sm w s e) (ha : a.size ≤ 9223372036854775807) (hb : b.size ≤ 9223372036854775807) (ht : Tabs w) :
  Calls Tryz.prog 85 #[.pointer (some ⟨s, 0, none⟩), .string a, .string b] w (DoPost w s (dos e (two a b (kept (ival a - ival b))))) := by
 have h := do_Sub s a b e _ w hs (sub_calls a b ha hb w ht)
 generalize dos e (two a b (kept (ival a - ival b))) = r at h ⊢
 have H := Lib.hid h; clear h hs ha hb ht
 go_enter Tryz.func85, Tryz.ntmps85
 go_wp2_with fail
 refine H.out.mono ?_
 rintro e w1 ⟨rfl, h1, h2⟩
 have H1 := Lib.hid h1; clear h1
 have H2 := Lib.hid h2; clear h2
 go_wp2
 go_ret
 exact ⟨rfl, H1.out, H2.out⟩
theorem two_go {a b : ByteArray} (ha : chk a = 0) (hb : chk b = 0) (r : ByteArray × Int) : two a b r = r := by
 unfold two; rw [if_neg (fun h => h ha), if_neg (fun h => h hb)]
theorem dos_ok (t : ByteArray) : dos 0 (t, 0) = (t, 0) := rfl
theorem quo_go {a b : ByteArray} (ha : chk a = 0) (hb : chk b = 0) (hz : ival b ≠ 0) : quoF a b = (itx ((ival a).fdiv (ival b)), 0) := by
 unfold quoF
 rw [two_go ha hb, if_neg hz, kept_fits (fits_of_le (quo_le _ _ hz) (chk_zero ha).2)]
theorem divInt_fits {u v : Int} (hv : v ≠ 0) (hu : fits u) (hf : fits v) : fits (Rat.divInt u v).num ∧ fits ((Rat.divInt u v).den : Int) := by
 rw [← low_num hv, ← low_den hv]
 exact ⟨fits_of_le (quo_le _ _ (gdiv_ne hv)) hu, fits_of_le (quo_le _ _ (gdiv_ne hv)) hf⟩
theorem zero_ok : chk (⟨#[48]⟩ : ByteArray) = 0 ∧ ival (⟨#[48]⟩ : ByteArray) = 0 := by
 rw [← itx_zero]; exact ⟨chk_small (by decide), ival_itx 0⟩
def LowPost (w : World) (s : Nat) (q : Rat) (e : Ending) (w' : World) : Prop := e = .returned (.string (rtx q)) ∧ Sm w' s 0 ∧ w.grownBy w' (some s)
set_option maxRecDepth 100000 in
set_option maxHeartbeats 4000000 in
theorem lowest_calls (s : Nat) (num den : ByteArray) (w w0 : World) (hs : Sm w s 0) (hn : chk num = 0) (hd : chk den = 0) (hz : ival den ≠ 0) (hu : Up w s w0) :
  Calls Tryz.prog 108 #[.pointer (some ⟨s, 0, none⟩), .string num, .string den] w (LowPost w s (Rat.divInt (ival num) (ival den))) := by
 have zn : num.size ≤ 9223372036854775807 := by have := chk_size hn; omega
 have zd : den.size ≤ 9223372036854775807 := by have := chk_size hd; omega
 have hg := gcd_calls num den zn zd w hu.tab
 rw [two_go hn hd] at hg
 have HG := Lib.hid (do_Gcd s num den 0 _ w hs hg); clear hg
 rw [dos_ok] at HG
 have HP := Lib.hid (hasPrefix_f hd)
 have hgd := gdiv_ne (u := ival num) hz
 have fg := fits_gcd (u := ival num) hz (chk_zero hd).2
 have hgc : chk (itx (gdiv (ival num) (ival den))) = 0 := by rw [chk_itx, if_pos fg]
 have zg : (itx (gdiv (ival num) (ival den))).size ≤ 9223372036854775807 := by have := chk_size hgc; omega
 have q1 : ∀ w : World, Tabs w → Calls Tryz.prog 61 #[.string num, .string (itx (gdiv (ival num) (ival den)))] w (TwoPost w (itx (Rat.divInt (ival num) (ival den)).num, 0)) := by
  intro w ht
  have := quo_calls num _ zn zg w ht
  rw [quo_go hn hgc (by rw [ival_itx]; exact hgd), ival_itx, low_num hz] at this
  exact this
 have q2 : ∀ w : World, Tabs w → Calls Tryz.prog 61 #[.string den, .string (itx (gdiv (ival num) (ival den)))] w (TwoPost w (itx (Rat.divInt (ival num) (ival den)).den, 0)) := by
  intro w ht
  have := quo_calls den _ zd zg w ht
  rw [quo_go hd hgc (by rw [ival_itx]; exact hgd), ival_itx, low_den hz] at this
  exact this
 have hff := divInt_fits hz (chk_zero hn).2 (chk_zero hd).2
 have HJ := Lib.hid (joined_f _ _ hff.1 hff.2)
 have hgcdc : chk (itx (gcdv (ival num) (ival den))) = 0 := by
  rw [chk_itx, if_pos]
  refine fits_of_le ?_ fg
  unfold gdiv; split <;> omega
 have hneg : ival den < 0 → ∀ (w1 : World), Sm w1 s 0 → Tabs w1 → Calls Tryz.prog 85 #[.pointer (some ⟨s, 0, none⟩), .string ⟨#[48]⟩, .string (itx (gcdv (ival num) (ival den)))] w1 (DoPost w1 s (itx (gdiv (ival num) (ival den)), 0)) := by
  intro hlt w1 h1 h2
  have := sumsSub s ⟨#[48]⟩ (itx (gcdv (ival num) (ival den))) 0 w1 h1 (by decide) (by have := chk_size hgcdc; omega) h2
  rw [two_go zero_ok.1 hgcdc, zero_ok.2, ival_itx, show (0 : Int) - gcdv (ival num) (ival den) = gdiv (ival num) (ival den) by unfold gdiv; rw [if_pos hlt]; omega, kept_fits fg, dos_ok] at this
  exact this
 have hpos : ¬ ival den < 0 → gcdv (ival num) (ival den) = gdiv (ival num) (ival den) := by
  intro hlt; unfold gdiv; rw [if_neg hlt]
 have HN := Lib.hid hneg; clear hneg
 have HPO := Lib.hid hpos; clear hpos
 have HQ1 := Lib.hid q1; clear q1
 have HQ2 := Lib.hid q2; clear q2
 have HU := Lib.hid hu; clear hu
 have hrt : rtx (Rat.divInt (ival num) (ival den)) = if (Rat.divInt (ival num) (ival den)).den = 1 then itx (Rat.divInt (ival num) (ival den)).num else itx (Rat.divInt (ival num) (ival den)).num ++ ⟨#[47]⟩ ++ itx (Rat.divInt (ival num) (ival den)).den := rfl
 rw [← hrt] at HJ
 clear hrt hff zn zd zg hgc hgd fg hz hgcdc hn hd hs
 generalize Rat.divInt (ival num) (ival den) = q at *
 generalize gdiv (ival num) (ival den) = gd at *
 generalize gcdv (ival num) (ival den) = gc at *
 by_cases hlt : ival den < 0
 ·rw [decide_eq_true hlt] at HP
  have HN2 := Lib.hid (HN.out hlt); clear HN HPO hlt
  go_enter Tryz.func108, Tryz.ntmps108
  go_wp2_with fail
  refine HG.out.mono ?_
  rintro e w1 ⟨rfl, h1, h2⟩
  have H1 := Lib.hid h1; clear h1
  have HU1 := Lib.hid (HU.out.grown h2)
  have HG1 := Lib.hid h2; clear h2
  go_wp2_with fail
  refine (Q.strings_HasPrefix.calls den ⟨#[45]⟩ true w1 HP.out).mono ?_
  rintro e w2 ⟨rfl, n2, rfl⟩
  have HS2 := Lib.hid (H1.out.drewN n2)
  have HG2 := Lib.hid (gby_drewN HG1.out n2)
  have HU2 := Lib.hid (HU1.out.then (pw_below_drewN (Below.refl _ _) n2))
  generalize w1.drewN n2 = w2 at *
  go_wp2_with fail
  refine (HN2.out w2 HS2.out HU2.out.tab).mono ?_
  rintro e w3 ⟨rfl, h1, h2⟩
  have c3 := h1.c0
  have HS3 := Lib.hid h1; clear h1
  have HU3 := Lib.hid (HU2.out.grown h2)
  have HG3 := Lib.hid (gby_trans HG2.out h2); clear h2
  go_wp2_with fail
  refine (do_Quo s num (itx gd) 0 _ w3 HS3.out (HQ1.out w3 HU3.out.tab)).mono ?_
  rintro e w4 ⟨rfl, h1, h2⟩
  have HS4 := Lib.hid h1; clear h1
  have HU4 := Lib.hid (HU3.out.grown h2)
  have HG4 := Lib.hid (gby_trans HG3.out h2); clear h2
  go_wp2_with fail
  refine (do_Quo s den (itx gd) 0 _ w4 HS4.out (HQ2.out w4 HU4.out.tab)).mono ?_
  rintro e w5 ⟨rfl, h1, h2⟩
  have HS5 := Lib.hid h1; clear h1
  have HG5 := Lib.hid (gby_trans HG4.out h2); clear h2
  go_wp2_with fail
  refine (Q.ratio_joined.calls _ _ _ w5 HJ.out).mono ?_
  rintro e w6 ⟨rfl, n6, rfl⟩
  go_wp2
  go_ret
  exact ⟨rfl, HS5.out.drewN n6, gby_drewN HG5.out n6⟩
 ·rw [decide_eq_false hlt] at HP
  have he := HPO.out hlt
  subst he
  clear HN HPO hlt
  go_enter Tryz.func108, Tryz.ntmps108
  go_wp2_with fail
  refine HG.out.mono ?_
  rintro e w1 ⟨rfl, h1, h2⟩
  have H1 := Lib.hid h1; clear h1
  have HU1 := Lib.hid (HU.out.grown h2)
  have HG1 := Lib.hid h2; clear h2
  go_wp2_with fail
  refine (Q.strings_HasPrefix.calls den ⟨#[45]⟩ false w1 HP.out).mono ?_
  rintro e w2 ⟨rfl, n2, rfl⟩
  have HS3 := Lib.hid (H1.out.drewN n2)
  have HG3 := Lib.hid (gby_drewN HG1.out n2)
  have HU3 := Lib.hid (HU1.out.then (pw_below_drewN (Below.refl _ _) n2))
  generalize w1.drewN n2 = w3 at *
  have c3 := HS3.out.c0
  go_wp2_with fail
  refine (do_Quo s num (itx gc) 0 _ w3 HS3.out (HQ1.out w3 HU3.out.tab)).mono ?_
  rintro e w4 ⟨rfl, h1, h2⟩
  have HS4 := Lib.hid h1; clear h1
  have HU4 := Lib.hid (HU3.out.grown h2)
  have HG4 := Lib.hid (gby_trans HG3.out h2); clear h2
  go_wp2_with fail
  refine (do_Quo s den (itx gc) 0 _ w4 HS4.out (HQ2.out w4 HU4.out.tab)).mono ?_
  rintro e w5 ⟨rfl, h1, h2⟩
  have HS5 := Lib.hid h1; clear h1
  have HG5 := Lib.hid (gby_trans HG4.out h2); clear h2
  go_wp2_with fail
  refine (Q.ratio_joined.calls _ _ _ w5 HJ.out).mono ?_
  rintro e w6 ⟨rfl, n6, rfl⟩
  go_wp2
  go_ret
  exact ⟨rfl, HS5.out.drewN n6, gby_drewN HG5.out n6⟩
end Go.Proofs.YtkdpcgmnkifbbaaGreatDoor
end
section
namespace Go.Proofs.YtkdpcgmnkifbbaaGreatDoor
open Go.RowKit Go.Proofs.YtkdpcgmnkifbbaaGreatDoorW.PrintWords Go.Proofs.YtkdpcgmnkifbbaaGreatDoorW.PrintMore
theorem lit0 (W : World) (x y : Value) (T : TypeId) : (W.alloc (.cells #[x, y] T)).cell? ⟨W.heap.size, 0, none⟩ = some x := by
 have h : (W.alloc (.cells #[x, y] T)).heap[W.heap.size]? = some (.cells #[x, y] T) := by
  rw [show (W.alloc (.cells #[x, y] T)).heap = W.heap.push (.cells #[x, y] T) from rfl, Array.getElem?_push_size]
 unfold World.cell?
 simp only
 rw [h]; rfl
theorem lit1 (W : World) (x y : Value) (T : TypeId) : (W.alloc (.cells #[x, y] T)).cell? ⟨W.heap.size, 1, none⟩ = some y := by
 have h : (W.alloc (.cells #[x, y] T)).heap[W.heap.size]? = some (.cells #[x, y] T) := by
  rw [show (W.alloc (.cells #[x, y] T)).heap = W.heap.push (.cells #[x, y] T) from rfl, Array.getElem?_push_size]
 unfold World.cell?
 simp only
 rw [h]; rfl
theorem mulLit (s : Nat) (a b : ByteArray) (e : Int) (W w0 : World) (T : TypeId) (hs : Sm W s e) (ha : chk a = 0) (hb : chk b = 0) (hu : Up W s w0) :
  Calls Tryz.prog 71 #[.pointer (some ⟨s, 0, none⟩), .slice (some ⟨W.heap.size, 0, none⟩) 2 2] (W.alloc (.cells #[.string a, .string b] T)) (fun e' w' => e' = .returned (.string (mres e (ival a * ival b)).1) ∧ Sm w' s (mres e (ival a * ival b)).2 ∧ W.grownBy w' (some s)) := by
 have za : a.size ≤ 9223372036854775807 := by have := chk_size ha; omega
 have zb : b.size ≤ 9223372036854775807 := by have := chk_size hb; omega
 have h := mul2_calls s W.heap.size 2 a b e (W.alloc (.cells #[.string a, .string b] T)) w0 (hs.alloc _) (lit0 W _ _ T) (lit1 W _ _ T) (by have := hs.lt; omega) (by simp) za zb (hu.then ((Below.refl _ _).alloc (Nat.le_refl _) _))
 rw [mul2_eq e ha hb] at h
 refine h.mono ?_
 rintro e' w' ⟨h1, h2, h3⟩
 exact ⟨h1, h2, gby_trans (gby_alloc (gby_refl W _) _) h3⟩
def ClosPost (w : World) (s : Nat) (x z : Int) (ok : Prop) (e : Ending) (w' : World) : Prop := ∃ (t1 t2 : ByteArray) (err : Int), e = .returned (.tuple #[.string t1, .string t2]) ∧ Sm w' s err ∧ w.grownBy w' (some s) ∧ ((ok ∧ err = 0 ∧ t1 = itx x ∧ t2 = itx z) ∨ (¬ ok ∧ err = 11))
theorem mres_fits {v : Int} (h : fits v) : mres 0 v = (itx v, 0) := by unfold mres; rw [if_neg (fun h => h rfl), if_pos h]
theorem mres_long {v : Int} (h : ¬ fits v) : mres 0 v = (⟨#[48]⟩, 11) := by unfold mres; rw [if_neg (fun h => h rfl), if_neg h]
theorem mres_err (v : Int) : mres 11 v = (⟨#[48]⟩, 11) := by unfold mres; rw [if_pos (by decide)]
theorem mres_size (e v : Int) : (mres e v).1.size ≤ 9223372036854775807 := by
 unfold mres; split
 ·show (1 : Nat) ≤ _; decide
 ·split
  ·rename_i h; have := chk_size (a := itx v) (by rw [chk_itx, if_pos h]); show (itx v).size ≤ _; omega
  ·show (1 : Nat) ≤ _; decide
theorem chk_fits {v : Int} (h : fits v) : chk (itx v) = 0 := by rw [chk_itx, if_pos h]
def sumR (op : Int → Int → Int) (x y : Int) : ByteArray × Int := dos (mres (mres 0 x).2 y).2 (two (mres 0 x).1 (mres (mres 0 x).2 y).1 (kept (op (ival (mres 0 x).1) (ival (mres (mres 0 x).2 y).1))))
theorem sumR_eq (op : Int → Int → Int) (x y : Int) : (fits x ∧ fits y ∧ fits (op x y) ∧ sumR op x y = (itx (op x y), 0)) ∨ (¬ (fits x ∧ fits y ∧ fits (op x y)) ∧ sumR op x y = (⟨#[48]⟩, 11)) := by
 unfold sumR
 by_cases hx : fits x
 ·rw [mres_fits hx]
  by_cases hy : fits y
  ·rw [mres_fits hy]
   simp only
   rw [two_go (chk_fits hx) (chk_fits hy), ival_itx, ival_itx, dos_kept]
   by_cases ho : fits (op x y)
   ·rw [mres_fits ho]; exact .inl ⟨hx, hy, ho, rfl⟩
   ·rw [mres_long ho]; exact .inr ⟨fun h => ho h.2.2, rfl⟩
  ·rw [mres_long hy, dos_err (by decide)]; exact .inr ⟨fun h => hy h.2.1, rfl⟩
 ·rw [mres_long hx, mres_err, dos_err (by decide)]; exact .inr ⟨fun h => hx h.1, rfl⟩
theorem last_post {w w' : World} {s : Nat} {op : Int → Int → Int} {x y z : Int} (hs : Sm w' s (mres (sumR op x y).2 z).2) (hg : w.grownBy w' (some s)) :
  ClosPost w s (op x y) z (fits x ∧ fits y ∧ fits (op x y) ∧ fits z) (.returned (.tuple #[.string (sumR op x y).1, .string (mres (sumR op x y).2 z).1])) w' := by
 refine ⟨_, _, _, rfl, hs, hg, ?_⟩
 rcases sumR_eq op x y with ⟨h1, h2, h3, h4⟩ | ⟨h1, h4⟩
 ·rw [h4]
  by_cases hz : fits z
  ·rw [mres_fits hz]; exact .inl ⟨⟨h1, h2, h3, hz⟩, rfl, rfl, rfl⟩
  ·rw [mres_long hz]; exact .inr ⟨fun h => hz h.2.2.2, rfl⟩
 ·rw [h4, mres_err]; exact .inr ⟨fun h => h1 ⟨h.1, h.2.1, h.2.2.1⟩, rfl⟩
theorem last_post2 {w w' : World} {s : Nat} {x z : Int} (hs : Sm w' s (mres (mres 0 x).2 z).2) (hg : w.grownBy w' (some s)) :
  ClosPost w s x z (fits x ∧ fits z) (.returned (.tuple #[.string (mres 0 x).1, .string (mres (mres 0 x).2 z).1])) w' := by
 refine ⟨_, _, _, rfl, hs, hg, ?_⟩
 by_cases hx : fits x
 ·rw [mres_fits hx]
  by_cases hz : fits z
  ·rw [mres_fits hz]; exact .inl ⟨⟨hx, hz⟩, rfl, rfl, rfl⟩
  ·rw [mres_long hz]; exact .inr ⟨fun h => hz h.2, rfl⟩
 ·rw [mres_long hx, mres_err]; exact .inr ⟨fun h => hx h.1, rfl⟩
set_option maxRecDepth 100000 in
set_option maxHeartbeats 4000000 in
theorem clos_Sub (s : Nat) (n p m q : ByteArray) (w w0 : World) (hs : Sm w s 0) (hn : chk n = 0) (hp : chk p = 0) (hm : chk m = 0) (hq : chk q = 0) (hu : Up w s w0) :
  Calls Tryz.prog 84 #[.pointer (some ⟨s, 0, none⟩), .string n, .string p, .string m, .string q] w (ClosPost w s (ival n * ival q - ival m * ival p) (ival p * ival q) (fits (ival n * ival q) ∧ fits (ival m * ival p) ∧ fits (ival n * ival q - ival m * ival p) ∧ fits (ival p * ival q))) := by
 have HS0 := Lib.hid hs; clear hs
 have HU0 := Lib.hid hu; clear hu
 have Hn := Lib.hid hn; clear hn
 have Hp := Lib.hid hp; clear hp
 have Hm := Lib.hid hm; clear hm
 have Hq := Lib.hid hq; clear hq
 go_enter Tryz.func84, Tryz.ntmps84
 go_wp2_with fail
 refine (mulLit s n q 0 w w0 _ HS0.out Hn.out Hq.out HU0.out).mono ?_
 rintro e w1 ⟨rfl, h1, h2⟩
 have HS1 := Lib.hid h1; clear h1
 have HU1 := Lib.hid (HU0.out.grown h2)
 have HG1 := Lib.hid h2; clear h2
 go_wp2_with fail
 refine (mulLit s m p _ w1 w0 _ HS1.out Hm.out Hp.out HU1.out).mono ?_
 rintro e w2 ⟨rfl, h1, h2⟩
 have HS2 := Lib.hid h1; clear h1
 have HU2 := Lib.hid (HU1.out.grown h2)
 have HG2 := Lib.hid (gby_trans HG1.out h2); clear h2
 go_wp2_with fail
 refine (sumsSub s _ _ _ w2 HS2.out (mres_size _ _) (mres_size _ _) HU2.out.tab).mono ?_
 rintro e w3 ⟨rfl, h1, h2⟩
 have HS3 : Hid (Sm w3 s (sumR (· - ·) (ival n * ival q) (ival m * ival p)).2) := Lib.hid h1; clear h1
 have HU3 := Lib.hid (HU2.out.grown h2)
 have HG3 := Lib.hid (gby_trans HG2.out h2); clear h2
 go_wp2_with fail
 refine (mulLit s p q (sumR (· - ·) (ival n * ival q) (ival m * ival p)).2 w3 w0 _ HS3.out Hp.out Hq.out HU3.out).mono ?_
 rintro e w4 ⟨rfl, h1, h2⟩
 have HS4 := Lib.hid h1; clear h1
 have HU4 := Lib.hid (HU3.out.grown h2)
 have HG4 := Lib.hid (gby_trans HG3.out h2); clear h2
 go_wp2
 go_ret2
 exact last_post (op := (· - ·)) HS4.out HG4.out
set_option maxRecDepth 100000 in
set_option maxHeartbeats 4000000 in
theorem clos_Mul (s : Nat) (n p m q : ByteArray) (w w0 : World) (hs : Sm w s 0) (hn : chk n = 0) (hp : chk p = 0) (hm : chk m = 0) (hq : chk q = 0) (hu : Up w s w0) :
  Calls Tryz.prog 83 #[.pointer (some ⟨s, 0, none⟩), .string n, .string p, .string m, .string q] w (ClosPost w s (ival n * ival m) (ival p * ival q) (fits (ival n * ival m) ∧ fits (ival p * ival q))) := by
 have HS0 := Lib.hid hs; clear hs
 have HU0 := Lib.hid hu; clear hu
 have Hn := Lib.hid hn; clear hn
 have Hp := Lib.hid hp; clear hp
 have Hm := Lib.hid hm; clear hm
 have Hq := Lib.hid hq; clear hq
 go_enter Tryz.func83, Tryz.ntmps83
 go_wp2_with fail
 refine (mulLit s n m 0 w w0 _ HS0.out Hn.out Hm.out HU0.out).mono ?_
 rintro e w1 ⟨rfl, h1, h2⟩
 have HS1 := Lib.hid h1; clear h1
 have HU1 := Lib.hid (HU0.out.grown h2)
 have HG1 := Lib.hid h2; clear h2
 go_wp2_with fail
 refine (mulLit s p q _ w1 w0 _ HS1.out Hp.out Hq.out HU1.out).mono ?_
 rintro e w2 ⟨rfl, h1, h2⟩
 have HS2 := Lib.hid h1; clear h1
 have HU2 := Lib.hid (HU1.out.grown h2)
 have HG2 := Lib.hid (gby_trans HG1.out h2); clear h2
 go_wp2
 go_ret2
 exact last_post2 HS2.out HG2.out
end Go.Proofs.YtkdpcgmnkifbbaaGreatDoor
end
section
namespace Go.Proofs.YtkdpcgmnkifbbaaGreatDoor
open Go.RowKit Go.Proofs.YtkdpcgmnkifbbaaGreatDoorW.PrintWords Go.Proofs.YtkdpcgmnkifbbaaGreatDoorW.PrintMore
def rchks : List ByteArray → Int
 | [] => 0
 | a :: l => if rchk a = 0 then rchks l else rchk a
theorem checks_l0 (l : List ByteArray) (hs : ∀ a ∈ l, a.size ≤ 4611686018427387904) (hn : l.length ≤ 4611686018427387904) (i k : Nat) (hi : i ≤ l.length) (hk : l.length - i + 3 ≤ k) : Q.ratio_checks.l0 k l (l.length : Int) (i : Int) = some (rchks (l.drop i)) := by
 induction k generalizing i with
 | zero => omega
 | succ k ih =>
  rw [Q.ratio_checks.l0]
  by_cases h : i < l.length
  ·rw [if_pos (by omega), if_pos (by omega), if_pos (by omega)]
   have e1 : rdOf ByteArray.empty l (i : Int) = l[i] := by simp [rdOf, List.getD, List.getElem?_eq_getElem h]
   obtain ⟨j, rfl⟩ : ∃ j, k = j + 2 := ⟨k - 2, by omega⟩
   rw [e1, rcheck_f _ (hs _ (List.getElem_mem h)) j, Option.bind_some, List.drop_eq_getElem_cons h]
   unfold rchks
   by_cases h0 : rchk l[i] = 0
   ·rw [if_pos h0, if_pos h0]
    have := ih (i + 1) (by omega) (by omega)
    rw [← this, IntWalk.wrap64_in _ (by omega)]; rfl
   ·rw [if_neg h0, if_neg h0]
  ·rw [if_neg (by omega), List.drop_eq_nil_of_le (by omega)]; rfl
theorem checks_two (a b : ByteArray) (ha : a.size ≤ 4611686018427387904) (hb : b.size ≤ 4611686018427387904) : Q.ratio_checks.f 6 [a, b] = some (rchks [a, b]) := by
 have := checks_l0 [a, b] (by intro x hx; simp at hx; rcases hx with rfl | rfl <;> assumption) (by simp) 0 6 (by simp) (by simp)
 exact this
def rtwo (a b : ByteArray) (r : ByteArray × Int) : ByteArray × Int := if rchk a ≠ 0 then (⟨#[]⟩, rchk a) else if rchk b ≠ 0 then (⟨#[]⟩, rchk b) else r
theorem rchks_two {a b : ByteArray} (h : rchks [a, b] = 0) : rchk a = 0 ∧ rchk b = 0 := by
 unfold rchks rchks rchks at h
 by_cases h1 : rchk a = 0
 ·rw [if_pos h1] at h
  by_cases h2 : rchk b = 0
  ·exact ⟨h1, h2⟩
  ·rw [if_neg h2] at h; exact absurd h h2
 ·rw [if_neg h1] at h; exact absurd h h1
theorem rtwo_bad {a b : ByteArray} {r : ByteArray × Int} (h : rchks [a, b] ≠ 0) : rtwo a b r = (⟨#[]⟩, rchks [a, b]) := by
 unfold rtwo
 unfold rchks rchks rchks at *
 by_cases h1 : rchk a = 0
 ·rw [if_pos h1] at h ⊢
  by_cases h2 : rchk b = 0
  ·rw [if_pos h2] at h; exact absurd rfl h
  ·rw [if_neg h2] at h ⊢
   rw [if_neg (fun h => h h1), if_pos h2]
 ·rw [if_neg h1] at h ⊢
  rw [if_pos h1]
theorem rtwo_ok {a b : ByteArray} {r : ByteArray × Int} (h : rchks [a, b] = 0) : rtwo a b r = r := by
 obtain ⟨h1, h2⟩ := rchks_two h
 unfold rtwo
 rw [if_neg (fun h => h h1), if_neg (fun h => h h2)]
def rnum (a : ByteArray) : Int := ival (cutF a).1
def rden (a : ByteArray) : Int := ival (cutF a).2.1
theorem rchk_parts {a : ByteArray} (h : rchk a = 0) : chk (cutF a).1 = 0 ∧ chk (cutF a).2.1 = 0 ∧ 0 < rden a := by
 unfold rchk at h
 split at h
 ·cases h
 ·split at h
  ·cases h
  ·rename_i h1 h2
   have e1 : chk (cutF a).1 = 0 := Classical.byContradiction fun h3 => h2 (.inl h3)
   have e2 : chk (cutF a).2.1 = 0 := Classical.byContradiction fun h3 => h2 (.inr h3)
   refine ⟨e1, e2, ?_⟩
   unfold rden
   split at h
   ·rename_i h3
    unfold cutF at h3 ⊢
    cases hc : cutL a.data.toList with
    | none => simp only; rw [one_text, ival_itx]; decide
    | some p => rw [hc] at h3; cases h3
   ·split at h
    ·rename_i h4; omega
    ·cases h
def madeR (x z : Int) (ok : Prop) [Decidable ok] : ByteArray × Int := if ok then (rtx (Rat.divInt x z), 0) else (⟨#[]⟩, 11)
theorem itx_nz {v : Int} (h : v ≠ 0) : ((itx v).toList == ([48] : List UInt8)) = false := by
 rw [beq_eq_false_iff_ne]
 intro h2
 apply h
 refine itx_inj ?_
 rw [itx_zero, ← Lib.mk_data (itx v), ← Lib.toList_data, h2]
set_option maxRecDepth 100000 in
set_option maxHeartbeats 8000000 in
theorem made_Sub (a b : ByteArray) (ha : a.size ≤ 4611686018427387904) (hb : b.size ≤ 4611686018427387904) (w : World) (ht : Tabs w) :
  Calls Tryz.prog 82 #[.string a, .string b, .func (.func 84) #[] #[]] w (TwoPost w (rtwo a b (madeR (rnum a * rden b - rnum b * rden a) (rden a * rden b) (fits (rnum a * rden b) ∧ fits (rnum b * rden a) ∧ fits (rnum a * rden b - rnum b * rden a) ∧ fits (rden a * rden b))))) := by
 have hall := checks_two a b ha hb
 have HCA := Lib.hid (cut_f a ha)
 have HCB := Lib.hid (cut_f b hb)
 have HT := Lib.hid ht; clear ht
 have HAL := Lib.hid hall; clear hall ha hb
 obtain ⟨y, hy⟩ : ∃ y : List ByteArray, y = [a, b] := ⟨_, rfl⟩
 have Ny := Lib.hid hy
 rw [← hy] at HAL
 by_cases hc : rchks [a, b] = 0
 ·rw [← hy] at hc
  rw [hc] at HAL
  rw [hy] at hc
  clear hy
  obtain ⟨h1, h2⟩ := rchks_two hc
  rw [rtwo_ok hc]
  clear hc
  have p1 := rchk_parts h1
  have p2 := rchk_parts h2
  have hz : rden a * rden b ≠ 0 := by
   have := Int.mul_pos p1.2.2 p2.2.2; omega
  have P1 := Lib.hid p1; clear p1 h1
  have P2 := Lib.hid p2; clear p2 h2
  have HZ := Lib.hid hz; clear hz
  go_enter Tryz.func82, Tryz.ntmps82
  go_wp2_with (first | ((with_reducible refine gate_dst (N := 21) rfl ?_); refine Kd.R_lit Kd.string _ 25 ?hg (N := 21) ?hd (xs := ([a, b] : List ByteArray)) (inner := [.string a, .string b]) (ok := fun _ => True) (okp := fun _ => True) ?hr ?hp (fun _ hk => hk) trivial (Below.refl _ _) (Nat.le_refl _) (by simp) ?_; (case hd => rfl); (case hg => rfl); (case hr => first | (go_simp; done) | (go_simp; rfl)); (case hp => exact (Reps.one (show Kd.M Kd.string _ _ _ a [.string a] from rfl) (Reps.one (show Kd.M Kd.string _ _ _ b [.string b] from rfl) (Reps.none _ _)))); intro v1 w1 ho hb1 hg_ hnew_; clear hg_ hnew_; rw [← Ny.out] at ho; have HO := Lib.hid ho; clear ho; have HB1 := Lib.hid hb1; clear hb1; obtain ⟨Ao, co, eo⟩ := Kd.R_slice HO.out; subst eo))
  refine (Q.ratio_checks.calls 6 Ao co y 0 w1 (Kd.R_reads' HO.out).2.2 (Kd.R_reads' HO.out).2.1 HAL.out (Aside0.mk (HT.out.below HB1.out))).mono ?_
  rintro e w2 ⟨rfl, hb2⟩
  have HB2 := Lib.hid (below_then HB1.out HB1.out.size hb2); clear hb2 HO
  go_wp2_with fail
  refine (Q.ratio_cut.calls a (cutF a).1 (cutF a).2.1 (cutF a).2.2 w2 HCA.out).mono ?_
  rintro e w3 ⟨rfl, hb3⟩
  have HB3 := Lib.hid (below_then HB2.out HB2.out.size hb3); clear hb3
  go_wp2_with fail
  refine (Q.ratio_cut.calls b (cutF b).1 (cutF b).2.1 (cutF b).2.2 w3 HCB.out).mono ?_
  rintro e w4 ⟨rfl, hb4⟩
  have HB4 := Lib.hid (below_then HB3.out HB3.out.size hb4); clear hb4
  go_wp2_with fail
  have hs5 : Sm (w4.alloc (.cells #[.int .i64 0] 100)) w4.heap.size 0 := Sm.fresh w4
  have hu5 : Up (w4.alloc (.cells #[.int .i64 0] 100)) w4.heap.size w := ⟨HT.out, HB4.out.size, HB4.out.alloc HB4.out.size _⟩
  generalize w4.alloc (.cells #[.int .i64 0] 100) = w5 at hs5 hu5 ⊢
  have HS5 := Lib.hid hs5; clear hs5
  have HU5 := Lib.hid hu5; clear hu5
  refine (clos_Sub w4.heap.size (cutF a).1 (cutF a).2.1 (cutF b).1 (cutF b).2.1 w5 w HS5.out P1.out.1 P1.out.2.1 P2.out.1 P2.out.2.1 HU5.out).mono ?_
  rintro e w6 ⟨t1, t2, err, rfl, hs6, hg6, hcase⟩
  have HU6 := Lib.hid (HU5.out.grown hg6); clear hg6
  have c6 := hs6.c0
  have HS6 := Lib.hid hs6; clear hs6
  rcases hcase with ⟨hok, rfl, rfl, rfl⟩ | ⟨hok, rfl⟩
  ·have hr : madeR (rnum a * rden b - rnum b * rden a) (rden a * rden b) (fits (rnum a * rden b) ∧ fits (rnum b * rden a) ∧ fits (rnum a * rden b - rnum b * rden a) ∧ fits (rden a * rden b)) = (rtx (Rat.divInt (rnum a * rden b - rnum b * rden a) (rden a * rden b)), 0) := if_pos hok
   have HX := Lib.hid (chk_fits hok.2.2.1)
   have HY := Lib.hid (chk_fits hok.2.2.2)
   have hnz := itx_nz HZ.out
   clear hok
   obtain ⟨X, hX⟩ : ∃ X : Int, X = rnum a * rden b - rnum b * rden a := ⟨_, rfl⟩
   obtain ⟨Z, hZ⟩ : ∃ Z : Int, Z = rden a * rden b := ⟨_, rfl⟩
   have eX : (ival (cutF a).1 * ival (cutF b).2.1 - ival (cutF b).1 * ival (cutF a).2.1) = X := hX.symm
   have eZ : (ival (cutF a).2.1 * ival (cutF b).2.1) = Z := hZ.symm
   have HRR := Lib.hid (hr.trans (show _ = (rtx (Rat.divInt X Z), (0 : Int)) by rw [hX, hZ])); clear hr
   rw [← hZ] at HZ hnz
   rw [eX] at HX
   rw [eZ] at HY
   rw [eX, eZ]
   clear hX hZ eX eZ
   go_wp2_with fail
   refine (lowest_calls w4.heap.size (itx X) (itx Z) w6 w HS6.out HX.out HY.out (by rw [ival_itx]; exact HZ.out) HU6.out).mono ?_
   rintro e w7 ⟨rfl, hs7, hg7⟩
   rw [ival_itx, ival_itx]
   have c7 := hs7.c0
   have HU7 := Lib.hid (HU6.out.grown hg7); clear hg7 hs7 c6
   go_wp2_with fail
   go_region
   go_wp2
   go_ret2
   exact ⟨by rw [HRR.out]; rfl, HU7.out.below.drew⟩
  ·have hr : madeR (rnum a * rden b - rnum b * rden a) (rden a * rden b) (fits (rnum a * rden b) ∧ fits (rnum b * rden a) ∧ fits (rnum a * rden b - rnum b * rden a) ∧ fits (rden a * rden b)) = (⟨#[]⟩, 11) := if_neg hok
   have HRR := Lib.hid hr
   clear hr hok
   go_wp2_with fail
   go_region
   go_wp2
   go_ret2
   exact ⟨by rw [HRR.out]; rfl, HU6.out.below.drew⟩
 ·rw [rtwo_bad hc]
  rw [show rchks y = rchks [a, b] by rw [hy]] at HAL
  generalize rchks [a, b] = c at HAL hc ⊢
  clear hy
  have hc2 : (c == 0) = false := beq_eq_false_iff_ne.2 hc
  clear hc
  go_enter Tryz.func82, Tryz.ntmps82
  go_wp2_with (first | ((with_reducible refine gate_dst (N := 21) rfl ?_); refine Kd.R_lit Kd.string _ 25 ?hg (N := 21) ?hd (xs := ([a, b] : List ByteArray)) (inner := [.string a, .string b]) (ok := fun _ => True) (okp := fun _ => True) ?hr ?hp (fun _ hk => hk) trivial (Below.refl _ _) (Nat.le_refl _) (by simp) ?_; (case hd => rfl); (case hg => rfl); (case hr => first | (go_simp; done) | (go_simp; rfl)); (case hp => exact (Reps.one (show Kd.M Kd.string _ _ _ a [.string a] from rfl) (Reps.one (show Kd.M Kd.string _ _ _ b [.string b] from rfl) (Reps.none _ _)))); intro v1 w1 ho hb1 hg_ hnew_; clear hg_ hnew_; rw [← Ny.out] at ho; have HO := Lib.hid ho; clear ho; have HB1 := Lib.hid hb1; clear hb1; obtain ⟨Ao, co, eo⟩ := Kd.R_slice HO.out; subst eo))
  refine (Q.ratio_checks.calls 6 Ao co y c w1 (Kd.R_reads' HO.out).2.2 (Kd.R_reads' HO.out).2.1 HAL.out (Aside0.mk (HT.out.below HB1.out))).mono ?_
  rintro e w2 ⟨rfl, hb2⟩
  have HB2 := Lib.hid (below_then HB1.out HB1.out.size hb2); clear hb2 HO
  go_wp2
  go_ret2
  exact ⟨rfl, HB2.out⟩
set_option maxRecDepth 100000 in
set_option maxHeartbeats 8000000 in
theorem rSub_calls (a b : ByteArray) (ha : a.size ≤ 4611686018427387904) (hb : b.size ≤ 4611686018427387904) (w : World) (ht : Tabs w) :
  Calls Tryz.prog 46 #[.string a, .string b] w (TwoPost w (rtwo a b (madeR (rnum a * rden b - rnum b * rden a) (rden a * rden b) (fits (rnum a * rden b) ∧ fits (rnum b * rden a) ∧ fits (rnum a * rden b - rnum b * rden a) ∧ fits (rden a * rden b))))) := by
 have H := Lib.hid (made_Sub a b ha hb w ht); clear ha hb ht
 generalize rtwo a b (madeR (rnum a * rden b - rnum b * rden a) (rden a * rden b) (fits (rnum a * rden b) ∧ fits (rnum b * rden a) ∧ fits (rnum a * rden b - rnum b * rden a) ∧ fits (rden a * rden b))) = r at H ⊢
 go_enter Tryz.func46, Tryz.ntmps46
 go_wp2_with fail
 refine H.out.mono ?_
 rintro e w1 ⟨rfl, hb1⟩
 have HB1 := Lib.hid hb1; clear hb1
 go_wp2
 go_ret2
 exact ⟨rfl, HB1.out⟩
set_option maxRecDepth 100000 in
set_option maxHeartbeats 8000000 in
theorem made_Mul (a b : ByteArray) (ha : a.size ≤ 4611686018427387904) (hb : b.size ≤ 4611686018427387904) (w : World) (ht : Tabs w) :
  Calls Tryz.prog 82 #[.string a, .string b, .func (.func 83) #[] #[]] w (TwoPost w (rtwo a b (madeR (rnum a * rnum b) (rden a * rden b) (fits (rnum a * rnum b) ∧ fits (rden a * rden b))))) := by
 have hall := checks_two a b ha hb
 have HCA := Lib.hid (cut_f a ha)
 have HCB := Lib.hid (cut_f b hb)
 have HT := Lib.hid ht; clear ht
 have HAL := Lib.hid hall; clear hall ha hb
 obtain ⟨y, hy⟩ : ∃ y : List ByteArray, y = [a, b] := ⟨_, rfl⟩
 have Ny := Lib.hid hy
 rw [← hy] at HAL
 by_cases hc : rchks [a, b] = 0
 ·rw [← hy] at hc
  rw [hc] at HAL
  rw [hy] at hc
  clear hy
  obtain ⟨h1, h2⟩ := rchks_two hc
  rw [rtwo_ok hc]
  clear hc
  have p1 := rchk_parts h1
  have p2 := rchk_parts h2
  have hz : rden a * rden b ≠ 0 := by
   have := Int.mul_pos p1.2.2 p2.2.2; omega
  have P1 := Lib.hid p1; clear p1 h1
  have P2 := Lib.hid p2; clear p2 h2
  have HZ := Lib.hid hz; clear hz
  go_enter Tryz.func82, Tryz.ntmps82
  go_wp2_with (first | ((with_reducible refine gate_dst (N := 21) rfl ?_); refine Kd.R_lit Kd.string _ 25 ?hg (N := 21) ?hd (xs := ([a, b] : List ByteArray)) (inner := [.string a, .string b]) (ok := fun _ => True) (okp := fun _ => True) ?hr ?hp (fun _ hk => hk) trivial (Below.refl _ _) (Nat.le_refl _) (by simp) ?_; (case hd => rfl); (case hg => rfl); (case hr => first | (go_simp; done) | (go_simp; rfl)); (case hp => exact (Reps.one (show Kd.M Kd.string _ _ _ a [.string a] from rfl) (Reps.one (show Kd.M Kd.string _ _ _ b [.string b] from rfl) (Reps.none _ _)))); intro v1 w1 ho hb1 hg_ hnew_; clear hg_ hnew_; rw [← Ny.out] at ho; have HO := Lib.hid ho; clear ho; have HB1 := Lib.hid hb1; clear hb1; obtain ⟨Ao, co, eo⟩ := Kd.R_slice HO.out; subst eo))
  refine (Q.ratio_checks.calls 6 Ao co y 0 w1 (Kd.R_reads' HO.out).2.2 (Kd.R_reads' HO.out).2.1 HAL.out (Aside0.mk (HT.out.below HB1.out))).mono ?_
  rintro e w2 ⟨rfl, hb2⟩
  have HB2 := Lib.hid (below_then HB1.out HB1.out.size hb2); clear hb2 HO
  go_wp2_with fail
  refine (Q.ratio_cut.calls a (cutF a).1 (cutF a).2.1 (cutF a).2.2 w2 HCA.out).mono ?_
  rintro e w3 ⟨rfl, hb3⟩
  have HB3 := Lib.hid (below_then HB2.out HB2.out.size hb3); clear hb3
  go_wp2_with fail
  refine (Q.ratio_cut.calls b (cutF b).1 (cutF b).2.1 (cutF b).2.2 w3 HCB.out).mono ?_
  rintro e w4 ⟨rfl, hb4⟩
  have HB4 := Lib.hid (below_then HB3.out HB3.out.size hb4); clear hb4
  go_wp2_with fail
  have hs5 : Sm (w4.alloc (.cells #[.int .i64 0] 100)) w4.heap.size 0 := Sm.fresh w4
  have hu5 : Up (w4.alloc (.cells #[.int .i64 0] 100)) w4.heap.size w := ⟨HT.out, HB4.out.size, HB4.out.alloc HB4.out.size _⟩
  generalize w4.alloc (.cells #[.int .i64 0] 100) = w5 at hs5 hu5 ⊢
  have HS5 := Lib.hid hs5; clear hs5
  have HU5 := Lib.hid hu5; clear hu5
  refine (clos_Mul w4.heap.size (cutF a).1 (cutF a).2.1 (cutF b).1 (cutF b).2.1 w5 w HS5.out P1.out.1 P1.out.2.1 P2.out.1 P2.out.2.1 HU5.out).mono ?_
  rintro e w6 ⟨t1, t2, err, rfl, hs6, hg6, hcase⟩
  have HU6 := Lib.hid (HU5.out.grown hg6); clear hg6
  have c6 := hs6.c0
  have HS6 := Lib.hid hs6; clear hs6
  rcases hcase with ⟨hok, rfl, rfl, rfl⟩ | ⟨hok, rfl⟩
  ·have hr : madeR (rnum a * rnum b) (rden a * rden b) (fits (rnum a * rnum b) ∧ fits (rden a * rden b)) = (rtx (Rat.divInt (rnum a * rnum b) (rden a * rden b)), 0) := if_pos hok
   have HX := Lib.hid (chk_fits hok.1)
   have HY := Lib.hid (chk_fits hok.2)
   have hnz := itx_nz HZ.out
   clear hok
   obtain ⟨X, hX⟩ : ∃ X : Int, X = rnum a * rnum b := ⟨_, rfl⟩
   obtain ⟨Z, hZ⟩ : ∃ Z : Int, Z = rden a * rden b := ⟨_, rfl⟩
   have eX : (ival (cutF a).1 * ival (cutF b).1) = X := hX.symm
   have eZ : (ival (cutF a).2.1 * ival (cutF b).2.1) = Z := hZ.symm
   have HRR := Lib.hid (hr.trans (show _ = (rtx (Rat.divInt X Z), (0 : Int)) by rw [hX, hZ])); clear hr
   rw [← hZ] at HZ hnz
   rw [eX] at HX
   rw [eZ] at HY
   rw [eX, eZ]
   clear hX hZ eX eZ
   go_wp2_with fail
   refine (lowest_calls w4.heap.size (itx X) (itx Z) w6 w HS6.out HX.out HY.out (by rw [ival_itx]; exact HZ.out) HU6.out).mono ?_
   rintro e w7 ⟨rfl, hs7, hg7⟩
   rw [ival_itx, ival_itx]
   have c7 := hs7.c0
   have HU7 := Lib.hid (HU6.out.grown hg7); clear hg7 hs7 c6
   go_wp2_with fail
   go_region
   go_wp2
   go_ret2
   exact ⟨by rw [HRR.out]; rfl, HU7.out.below.drew⟩
  ·have hr : madeR (rnum a * rnum b) (rden a * rden b) (fits (rnum a * rnum b) ∧ fits (rden a * rden b)) = (⟨#[]⟩, 11) := if_neg hok
   have HRR := Lib.hid hr
   clear hr hok
   go_wp2_with fail
   go_region
   go_wp2
   go_ret2
   exact ⟨by rw [HRR.out]; rfl, HU6.out.below.drew⟩
 ·rw [rtwo_bad hc]
  rw [show rchks y = rchks [a, b] by rw [hy]] at HAL
  generalize rchks [a, b] = c at HAL hc ⊢
  clear hy
  have hc2 : (c == 0) = false := beq_eq_false_iff_ne.2 hc
  clear hc
  go_enter Tryz.func82, Tryz.ntmps82
  go_wp2_with (first | ((with_reducible refine gate_dst (N := 21) rfl ?_); refine Kd.R_lit Kd.string _ 25 ?hg (N := 21) ?hd (xs := ([a, b] : List ByteArray)) (inner := [.string a, .string b]) (ok := fun _ => True) (okp := fun _ => True) ?hr ?hp (fun _ hk => hk) trivial (Below.refl _ _) (Nat.le_refl _) (by simp) ?_; (case hd => rfl); (case hg => rfl); (case hr => first | (go_simp; done) | (go_simp; rfl)); (case hp => exact (Reps.one (show Kd.M Kd.string _ _ _ a [.string a] from rfl) (Reps.one (show Kd.M Kd.string _ _ _ b [.string b] from rfl) (Reps.none _ _)))); intro v1 w1 ho hb1 hg_ hnew_; clear hg_ hnew_; rw [← Ny.out] at ho; have HO := Lib.hid ho; clear ho; have HB1 := Lib.hid hb1; clear hb1; obtain ⟨Ao, co, eo⟩ := Kd.R_slice HO.out; subst eo))
  refine (Q.ratio_checks.calls 6 Ao co y c w1 (Kd.R_reads' HO.out).2.2 (Kd.R_reads' HO.out).2.1 HAL.out (Aside0.mk (HT.out.below HB1.out))).mono ?_
  rintro e w2 ⟨rfl, hb2⟩
  have HB2 := Lib.hid (below_then HB1.out HB1.out.size hb2); clear hb2 HO
  go_wp2
  go_ret2
  exact ⟨rfl, HB2.out⟩
set_option maxRecDepth 100000 in
set_option maxHeartbeats 8000000 in
theorem rMul_calls (a b : ByteArray) (ha : a.size ≤ 4611686018427387904) (hb : b.size ≤ 4611686018427387904) (w : World) (ht : Tabs w) :
  Calls Tryz.prog 45 #[.string a, .string b] w (TwoPost w (rtwo a b (madeR (rnum a * rnum b) (rden a * rden b) (fits (rnum a * rnum b) ∧ fits (rden a * rden b))))) := by
 have H := Lib.hid (made_Mul a b ha hb w ht); clear ha hb ht
 generalize rtwo a b (madeR (rnum a * rnum b) (rden a * rden b) (fits (rnum a * rnum b) ∧ fits (rden a * rden b))) = r at H ⊢
 go_enter Tryz.func45, Tryz.ntmps45
 go_wp2_with fail
 refine H.out.mono ?_
 rintro e w1 ⟨rfl, hb1⟩
 have HB1 := Lib.hid hb1; clear hb1
 go_wp2
 go_ret2
 exact ⟨rfl, HB1.out⟩
end Go.Proofs.YtkdpcgmnkifbbaaGreatDoor
end
section
namespace Go.Proofs.YtkdpcgmnkifbbaaGreatDoor
open Go.RowKit Go.Proofs.YtkdpcgmnkifbbaaGreatDoorW.PrintWords Go.Proofs.YtkdpcgmnkifbbaaGreatDoorW.PrintMore
def cmpR (a b : ByteArray) : Int × Int := if rchk a ≠ 0 then (0, rchk a) else if rchk b ≠ 0 then (0, rchk b) else if fits (rnum a * rden b) ∧ fits (rnum b * rden a) then (cmpv (rnum a * rden b) (rnum b * rden a), 0) else (0, 11)
theorem cmpR_bad {a b : ByteArray} (h : rchks [a, b] ≠ 0) : cmpR a b = (0, rchks [a, b]) := by
 unfold cmpR
 unfold rchks rchks rchks at *
 by_cases h1 : rchk a = 0
 ·rw [if_pos h1] at h ⊢
  by_cases h2 : rchk b = 0
  ·rw [if_pos h2] at h; exact absurd rfl h
  ·rw [if_neg h2] at h ⊢
   rw [if_neg (fun h => h h1), if_pos h2]
 ·rw [if_neg h1] at h ⊢
  rw [if_pos h1]
def CmpPost (w : World) (r : Int × Int) (e : Ending) (w' : World) : Prop := e = .returned (.tuple #[.int .i64 r.1, .int .i64 r.2]) ∧ Below w.heap.size w w'
theorem cmp_calls (u v : Int) (hu : fits u) (hv : fits v) (w : World) : Calls Tryz.prog 69 #[.string (itx u), .string (itx v)] w fun e w' => e = .returned (.tuple #[.int .i64 (cmpv u v), .int .i64 0]) ∧ Below w.heap.size w w' := by
 have s1 := chk_size (chk_fits hu)
 have s2 := chk_size (chk_fits hv)
 have h := compare_f (itx u) (itx v) (by omega) (by omega)
 rw [show twoi (itx u) (itx v) (cmpv (ival (itx u)) (ival (itx v))) = (cmpv u v, 0) by
  unfold twoi; rw [if_neg (fun h => h (chk_fits hu)), if_neg (fun h => h (chk_fits hv)), ival_itx, ival_itx]] at h
 exact C.whole_Compare.calls 5 _ _ _ _ w h
set_option maxRecDepth 100000 in
set_option maxHeartbeats 1000000 in
theorem rCompare_calls (a b : ByteArray) (ha : a.size ≤ 4611686018427387904) (hb : b.size ≤ 4611686018427387904) (w : World) (ht : Tabs w) :
  Calls Tryz.prog 37 #[.string a, .string b] w (CmpPost w (cmpR a b)) := by
 have hall := checks_two a b ha hb
 have HCA := Lib.hid (cut_f a ha)
 have HCB := Lib.hid (cut_f b hb)
 have HT := Lib.hid ht; clear ht
 have HAL := Lib.hid hall; clear hall ha hb
 obtain ⟨y, hy⟩ : ∃ y : List ByteArray, y = [a, b] := ⟨_, rfl⟩
 have Ny := Lib.hid hy
 rw [← hy] at HAL
 by_cases hc : rchks [a, b] = 0
 ·rw [← hy] at hc
  rw [hc] at HAL
  rw [hy] at hc
  clear hy
  obtain ⟨h1, h2⟩ := rchks_two hc
  clear hc
  have P1 := Lib.hid (rchk_parts h1)
  have P2 := Lib.hid (rchk_parts h2)
  have hR : cmpR a b = if fits (rnum a * rden b) ∧ fits (rnum b * rden a) then (cmpv (rnum a * rden b) (rnum b * rden a), 0) else (0, 11) := by
   unfold cmpR; rw [if_neg (fun h => h h1), if_neg (fun h => h h2)]
  clear h1 h2
  have HR0 := Lib.hid hR; clear hR
  go_enter Tryz.func37, Tryz.ntmps37
  go_wp2_with (first | ((with_reducible refine gate_dst (N := 18) rfl ?_); refine Kd.R_lit Kd.string _ 25 ?hg (N := 18) ?hd (xs := ([a, b] : List ByteArray)) (inner := [.string a, .string b]) (ok := fun _ => True) (okp := fun _ => True) ?hr ?hp (fun _ hk => hk) trivial (Below.refl _ _) (Nat.le_refl _) (by simp) ?_; (case hd => rfl); (case hg => rfl); (case hr => first | (go_simp; done) | (go_simp; rfl)); (case hp => exact (Reps.one (show Kd.M Kd.string _ _ _ a [.string a] from rfl) (Reps.one (show Kd.M Kd.string _ _ _ b [.string b] from rfl) (Reps.none _ _)))); intro v1 w1 ho hb1 hg_ hnew_; clear hg_ hnew_; rw [← Ny.out] at ho; have HO := Lib.hid ho; clear ho; have HB1 := Lib.hid hb1; clear hb1; obtain ⟨Ao, co, eo⟩ := Kd.R_slice HO.out; subst eo))
  refine (Q.ratio_checks.calls 6 Ao co y 0 w1 (Kd.R_reads' HO.out).2.2 (Kd.R_reads' HO.out).2.1 HAL.out (Aside0.mk (HT.out.below HB1.out))).mono ?_
  rintro e w2 ⟨rfl, hb2⟩
  have HB2 := Lib.hid (below_then HB1.out HB1.out.size hb2); clear hb2 HO
  go_wp2_with fail
  refine (Q.ratio_cut.calls a (cutF a).1 (cutF a).2.1 (cutF a).2.2 w2 HCA.out).mono ?_
  rintro e w3 ⟨rfl, hb3⟩
  have HB3 := Lib.hid (below_then HB2.out HB2.out.size hb3); clear hb3
  go_wp2_with fail
  refine (Q.ratio_cut.calls b (cutF b).1 (cutF b).2.1 (cutF b).2.2 w3 HCB.out).mono ?_
  rintro e w4 ⟨rfl, hb4⟩
  have HB4 := Lib.hid (below_then HB3.out HB3.out.size hb4); clear hb4
  go_wp2_with fail
  have hs5 : Sm (w4.alloc (.cells #[.int .i64 0] 100)) w4.heap.size 0 := Sm.fresh w4
  have hu5 : Up (w4.alloc (.cells #[.int .i64 0] 100)) w4.heap.size w := ⟨HT.out, HB4.out.size, HB4.out.alloc HB4.out.size _⟩
  have hls : w4.heap.size + 1 = (w4.alloc (.cells #[.int .i64 0] 100)).heap.size := by simp
  generalize w4.alloc (.cells #[.int .i64 0] 100) = w5 at hs5 hu5 hls ⊢
  rw [hls]
  have HS5 := Lib.hid hs5; clear hs5
  have HU5 := Lib.hid hu5; clear hu5
  refine (mulLit w4.heap.size (cutF a).1 (cutF b).2.1 0 w5 w _ HS5.out P1.out.1 P2.out.2.1 HU5.out).mono ?_
  rintro e w6 ⟨rfl, h1, h2⟩
  have HS6 := Lib.hid h1; clear h1
  have HU6 := Lib.hid (HU5.out.grown h2); clear h2
  go_wp2_with fail
  refine (mulLit w4.heap.size (cutF b).1 (cutF a).2.1 _ w6 w _ HS6.out P2.out.1 P1.out.2.1 HU6.out).mono ?_
  rintro e w7 ⟨rfl, h1, h2⟩
  have HU7 := Lib.hid (HU6.out.grown h2); clear h2
  have eX : ival (cutF a).1 * ival (cutF b).2.1 = rnum a * rden b := rfl
  have eY : ival (cutF b).1 * ival (cutF a).2.1 = rnum b * rden a := rfl
  rw [eX, eY] at h1
  rw [eX, eY]
  clear eX eY HS6 HU6 hls
  generalize rnum a * rden b = X at *
  generalize rnum b * rden a = Y at *
  by_cases hX : fits X
  ·by_cases hY : fits Y
   ·rw [mres_fits hX, mres_fits hY] at h1
    rw [mres_fits hX, mres_fits hY]
    have c7 := h1.c0
    have HRR := HR0.out
    rw [if_pos ⟨hX, hY⟩] at HRR
    have HRR := Lib.hid HRR
    have HC := Lib.hid (cmp_calls X Y hX hY)
    clear hX hY h1
    go_wp2_with fail
    refine (HC.out w7).mono ?_
    rintro e w8 ⟨rfl, hb8⟩
    have HB8 := Lib.hid (below_then HU7.out.below HU7.out.below.size hb8); clear hb8
    go_wp2
    go_ret2
    exact ⟨by rw [HRR.out]; rfl, HB8.out⟩
   ·rw [mres_fits hX, mres_long hY] at h1
    rw [mres_fits hX, mres_long hY]
    have c7 := h1.c0
    have HRR := HR0.out
    rw [if_neg (fun h => hY h.2)] at HRR
    have HRR := Lib.hid HRR
    clear hX hY h1
    go_wp2_with fail
    go_region
    go_wp2
    go_ret2
    exact ⟨by rw [HRR.out]; rfl, HU7.out.below.drew⟩
  ·rw [mres_long hX, mres_err] at h1
   rw [mres_long hX, mres_err]
   have c7 := h1.c0
   have HRR := HR0.out
   rw [if_neg (fun h => hX h.1)] at HRR
   have HRR := Lib.hid HRR
   clear hX h1
   go_wp2_with fail
   go_region
   go_wp2
   go_ret2
   exact ⟨by rw [HRR.out]; rfl, HU7.out.below.drew⟩
 ·have hR := cmpR_bad hc
  have HRR := Lib.hid hR; clear hR
  rw [show rchks y = rchks [a, b] by rw [hy]] at HAL
  generalize rchks [a, b] = c at HAL hc HRR
  clear hy
  have hc2 : (c == 0) = false := beq_eq_false_iff_ne.2 hc
  clear hc
  go_enter Tryz.func37, Tryz.ntmps37
  go_wp2_with (first | ((with_reducible refine gate_dst (N := 18) rfl ?_); refine Kd.R_lit Kd.string _ 25 ?hg (N := 18) ?hd (xs := ([a, b] : List ByteArray)) (inner := [.string a, .string b]) (ok := fun _ => True) (okp := fun _ => True) ?hr ?hp (fun _ hk => hk) trivial (Below.refl _ _) (Nat.le_refl _) (by simp) ?_; (case hd => rfl); (case hg => rfl); (case hr => first | (go_simp; done) | (go_simp; rfl)); (case hp => exact (Reps.one (show Kd.M Kd.string _ _ _ a [.string a] from rfl) (Reps.one (show Kd.M Kd.string _ _ _ b [.string b] from rfl) (Reps.none _ _)))); intro v1 w1 ho hb1 hg_ hnew_; clear hg_ hnew_; rw [← Ny.out] at ho; have HO := Lib.hid ho; clear ho; have HB1 := Lib.hid hb1; clear hb1; obtain ⟨Ao, co, eo⟩ := Kd.R_slice HO.out; subst eo))
  refine (Q.ratio_checks.calls 6 Ao co y c w1 (Kd.R_reads' HO.out).2.2 (Kd.R_reads' HO.out).2.1 HAL.out (Aside0.mk (HT.out.below HB1.out))).mono ?_
  rintro e w2 ⟨rfl, hb2⟩
  have HB2 := Lib.hid (below_then HB1.out HB1.out.size hb2); clear hb2 HO
  go_wp2
  go_ret2
  exact ⟨by rw [HRR.out]; rfl, HB2.out⟩
def makeF (a b : ByteArray) : ByteArray × Int := two a b (if ival b = 0 then (⟨#[]⟩, 10) else (rtx (Rat.divInt (ival a) (ival b)), 0))
set_option maxRecDepth 100000 in
set_option maxHeartbeats 1000000 in
theorem make_calls (a b : ByteArray) (ha : a.size ≤ 9223372036854775807) (hb : b.size ≤ 9223372036854775807) (w : World) (ht : Tabs w) :
  Calls Tryz.prog 65 #[.string a, .string b] w (TwoPost w (makeF a b)) := by
 have HT := Lib.hid ht; clear ht
 have CA := Lib.hid (check_calls a ha); clear ha
 have CB := Lib.hid (check_calls b hb); clear hb
 have hmk : ∀ r, makeF a b = r → Hid (makeF a b = r) := fun r h => Lib.hid h
 go_enter Tryz.func65, Tryz.ntmps65
 go_wp2
 have la := lit0 w (.string a) (.string b) 39
 have lb := lit1 w (.string a) (.string b) 39
 have hb0 : Below w.heap.size w (w.alloc (.cells #[.string a, .string b] 39)) := (Below.refl _ _).alloc (Nat.le_refl _) _
 have hl0 : w.heap.size < (w.alloc (.cells #[.string a, .string b] 39)).heap.size := by simp
 generalize w.alloc (.cells #[.string a, .string b] 39) = w1 at la lb hb0 hl0 ⊢
 have LA := Lib.hid la; clear la
 have LB := Lib.hid lb; clear lb
 have HB0 := Lib.hid hb0; clear hb0
 have HMK := Lib.hid hmk; clear hmk
 go_loopg [15] 2 (fun g v15 wr => Hid (Below w1.heap.size w1 wr) ∧ ((g = 2 ∧ v15 = .int .i64 0) ∨ (g = 1 ∧ v15 = .int .i64 1 ∧ Hid (chk a = 0)) ∨ (g = 0 ∧ v15 = .int .i64 2 ∧ Hid (chk a = 0) ∧ Hid (chk b = 0))))
 case atStart => exact ⟨Lib.hid (Below.refl _ _), .inl ⟨rfl, rfl⟩⟩
 case round =>
  obtain ⟨HG, ⟨rfl, rfl⟩ | ⟨rfl, rfl, HA0⟩ | ⟨rfl, rfl, HA0, HB00⟩⟩ := hrel
  ·have ca := (HG.out.cell (World.block_lt_of_cell? w1 _ LA.out)).trans LA.out
   have hd : chk a = 0 ∨ chk a ≠ 0 := by by_cases h : chk a = 0; exact .inl h; exact .inr h
   rcases hd with h | h
   ·go_wp2_with fail
    refine (CA.out wr).mono ?_
    rintro e w2 ⟨rfl, hb2⟩
    have HB2 := Lib.hid (below_then HG.out HG.out.size hb2); clear hb2
    rw [h]
    have HA0 := Lib.hid h; clear h
    go_wp2
    go_roundg 1
    case measure => decide
    case rel => exact ⟨HB2, .inr (.inl ⟨rfl, rfl, HA0⟩)⟩
   ·have hr := HMK.out (⟨#[]⟩, chk a) (by unfold makeF two; rw [if_pos h])
    go_wp2_with fail
    refine (CA.out wr).mono ?_
    rintro e w2 ⟨rfl, hb2⟩
    have HB2 := Lib.hid (below_then HB0.out HB0.out.size (below_then HG.out HG.out.size hb2)); clear hb2
    generalize chk a = c at h hr ⊢
    have hc2 : (c == 0) = false := beq_eq_false_iff_ne.2 h
    clear h
    go_wp2
    go_ret2
    exact ⟨by rw [hr.out]; rfl, HB2.out⟩
  ·have cb := (HG.out.cell (World.block_lt_of_cell? w1 _ LB.out)).trans LB.out
   have hd : chk b = 0 ∨ chk b ≠ 0 := by by_cases h : chk b = 0; exact .inl h; exact .inr h
   rcases hd with h | h
   ·go_wp2_with fail
    refine (CB.out wr).mono ?_
    rintro e w2 ⟨rfl, hb2⟩
    have HB2 := Lib.hid (below_then HG.out HG.out.size hb2); clear hb2
    rw [h]
    have HB00 := Lib.hid h; clear h
    go_wp2
    go_roundg 0
    case measure => decide
    case rel => exact ⟨HB2, .inr (.inr ⟨rfl, rfl, HA0, HB00⟩)⟩
   ·have hr := HMK.out (⟨#[]⟩, chk b) (by unfold makeF two; rw [if_neg (fun h => h HA0.out), if_pos h])
    go_wp2_with fail
    refine (CB.out wr).mono ?_
    rintro e w2 ⟨rfl, hb2⟩
    have HB2 := Lib.hid (below_then HB0.out HB0.out.size (below_then HG.out HG.out.size hb2)); clear hb2
    generalize chk b = c at h hr ⊢
    have hc2 : (c == 0) = false := beq_eq_false_iff_ne.2 h
    clear h
    go_wp2
    go_ret2
    exact ⟨by rw [hr.out]; rfl, HB2.out⟩
  ·have HBW := Lib.hid (below_then HB0.out HB0.out.size HG.out)
   have hz := zero_text HB00.out
   by_cases h0 : ival b = 0
   ·rw [decide_eq_true h0] at hz
    have hr := HMK.out (⟨#[]⟩, 10) (by unfold makeF; rw [two_go HA0.out HB00.out, if_pos h0])
    clear h0
    go_wp2
    go_ret2
    exact ⟨by rw [hr.out]; rfl, HBW.out⟩
   ·rw [decide_eq_false h0] at hz
    have hr := HMK.out (rtx (Rat.divInt (ival a) (ival b)), 0) (by unfold makeF; rw [two_go HA0.out HB00.out, if_neg h0])
    have H0 := Lib.hid h0; clear h0
    go_wp2_with fail
    have hs5 : Sm (wr.alloc (.cells #[.int .i64 0] 100)) wr.heap.size 0 := Sm.fresh wr
    have hu5 : Up (wr.alloc (.cells #[.int .i64 0] 100)) wr.heap.size w := ⟨HT.out, HBW.out.size, HBW.out.alloc HBW.out.size _⟩
    generalize wr.alloc (.cells #[.int .i64 0] 100) = w5 at hs5 hu5 ⊢
    have HS5 := Lib.hid hs5; clear hs5
    have HU5 := Lib.hid hu5; clear hu5
    refine (lowest_calls wr.heap.size a b w5 w HS5.out HA0.out HB00.out H0.out HU5.out).mono ?_
    rintro e w7 ⟨rfl, hs7, hg7⟩
    have c7 := hs7.c0
    have HU7 := Lib.hid (HU5.out.grown hg7); clear hg7 hs7
    go_wp2
    go_ret2
    exact ⟨by rw [hr.out]; rfl, HU7.out.below⟩
end Go.Proofs.YtkdpcgmnkifbbaaGreatDoor
end
section
namespace Go.Proofs.YtkdpcgmnkifbbaaGreatDoor
open Go.RowKit Go.Proofs.YtkdpcgmnkifbbaaGreatDoorW.PrintWords Go.Proofs.YtkdpcgmnkifbbaaGreatDoorW.PrintMore
abbrev KP : Kd (Int × ByteArray) := Kd.pair (Kd.int .i64) Kd.string
theorem at_KP {w : World} {A : Option Addr} {n : Nat} {xs : List (Int × ByteArray)} (h : Kd.C KP w A n xs) (i : Nat) (h1 : i < xs.length) :
  ∃ ad , A = some ad ∧ w.cell? (ad.add (i * 2)) = some (.int .i64 xs[i].1) ∧ w.cell? ⟨(ad.add (i * 2)).block, (ad.add (i * 2)).off + 1, none⟩ = some (.string xs[i].2) := by
 obtain ⟨ad, c, e, _, hK, hc0⟩ := Kd.C_get h ((0 : Int), ByteArray.empty) (i : Int) (by omega) (by have := h.1; omega)
 rw [Int.toNat_natCast, List.getD, List.getElem?_eq_getElem h1, Option.getD_some] at hK
 rw [Int.toNat_natCast] at hc0
 have hc : ∀ j u, c[j]? = some u → w.cell? (ad.add (i * 2 + j)) = some u := hc0
 obtain ⟨c1, c2, rfl, e1, e2⟩ := hK
 cases e1
 cases e2
 exact ⟨ad, e, hc 0 _ rfl, by rw [← add_field _ _ 1 (by omega)]; exact hc 1 _ rfl⟩
def dck1 (p : Option Int) (x : Int × ByteArray) : Int :=
 if chk x.2 ≠ 0 then chk x.2 else if ival x.2 ≤ 0 ∨ ¬ (-1048576 ≤ x.1 ∧ x.1 ≤ 1048576) then 2 else match p with | none => 0 | some q => if x.1 ≤ q then 9 else 0
def dckl : Option Int → List (Int × ByteArray) → Int
 | _, [] => 0
 | p, x :: t => if dck1 p x ≠ 0 then dck1 p x else dckl (some x.1) t
def dck (l : List (Int × ByteArray)) : Int := if l.length = 0 then 13 else if l.length > 4096 then 5 else dckl none l
theorem sign_f2 (a : ByteArray) (h : chk a = 0) (hs : a.size ≤ 9223372036854775807) : E.dist_sign.f a = some (sgn (ival a)) := by
 unfold E.dist_sign.f E.whole_Sign.f
 rw [if_pos hs, if_pos h]; rfl
theorem within_f2 (n : Int) : E.dist_within.f n = some (decide (-1048576 ≤ n ∧ n ≤ 1048576)) := by
 unfold E.dist_within.f
 by_cases h : n ≥ -1048576
 ·rw [if_pos h]
  by_cases h2 : n ≤ 1048576
  ·rw [decide_eq_true h2, decide_eq_true ⟨h, h2⟩]
  ·rw [decide_eq_false h2, decide_eq_false (fun h3 => h2 h3.2)]
 ·rw [if_neg h, decide_eq_false (fun h3 => h h3.1)]
def prevv (l : List (Int × ByteArray)) (i : Nat) : Option Int := if i = 0 then none else (l[i - 1]?).map (·.1)
set_option maxRecDepth 100000 in
set_option maxHeartbeats 4000000 in
theorem dcheck_calls (A0 : Option Addr) (c0 : Nat) (l : List (Int × ByteArray)) (w : World) (hr0 : Kd.C KP w A0 l.length l) (hc0 : l.length ≤ c0) (hsz : ∀ x ∈ l, x.2.size ≤ 9223372036854775807) :
  Calls Tryz.prog 20 #[.slice A0 l.length c0] w fun e w' => e = .returned (.int .i64 (dck l)) ∧ Below w.heap.size w w' := by
 have HR0 := Lib.hid hr0; clear hr0
 have HC0 := Lib.hid hc0; clear hc0
 have HSZ := Lib.hid hsz; clear hsz
 by_cases h0 : l.length = 0
 ·have e0 : dck l = 13 := if_pos h0
  rw [e0]
  have hl0 : ((l.length : Int) == 0) = true := by rw [beq_iff_eq]; omega
  clear e0
  go_enter Tryz.func20, Tryz.ntmps20
  go_wp2
  go_ret
  exact ⟨rfl, Below.refl _ _⟩
 ·have hl0 : ((l.length : Int) == 0) = false := by rw [beq_eq_false_iff_ne]; omega
  by_cases h1 : l.length > 4096
  ·have e0 : dck l = 5 := by unfold dck; rw [if_neg h0, if_pos h1]
   rw [e0]
   have h2 : ((4096 : Int) < (l.length : Int)) = True := eq_true (by omega)
   clear e0 h0 h1
   go_enter Tryz.func20, Tryz.ntmps20
   go_wp2
   go_ret
   exact ⟨rfl, Below.refl _ _⟩
  ·have e0 : dck l = dckl none l := by unfold dck; rw [if_neg h0, if_neg h1]
   rw [e0]
   have h2 : ((4096 : Int) < (l.length : Int)) = False := eq_false (by omega)
   have HL := Lib.hid (show l.length ≤ 4096 by omega)
   clear e0 h0 h1
   obtain ⟨r, hr⟩ : ∃ r, r = dckl none l := ⟨_, rfl⟩
   rw [← hr]
   have HRR := Lib.hid hr; clear hr
   go_enter Tryz.func20, Tryz.ntmps20
   go_wp2
   go_loopg [16] l.length (fun g v wr => ∃ i : Nat, v = .int .i64 (i : Int) ∧ g + i = l.length ∧ Hid (r = dckl (prevv l i) (l.drop i)) ∧ Hid (Below w.heap.size w wr))
   case atStart => exact ⟨0, rfl, by omega, HRR, Lib.hid (Below.refl _ _)⟩
   case round =>
    obtain ⟨i, rfl, hg, HR, HB⟩ := hrel
    rcases Nat.eq_zero_or_pos gk with hg0 | hg0
    ·have hc : ((i : Int) < (l.length : Int)) = False := eq_false (by omega)
     have hrr := HR.out
     rw [List.drop_of_length_le (by omega)] at hrr
     replace hrr : r = 0 := hrr
     clear hg hg0
     subst hrr
     go_wp2
     go_ret
     exact ⟨rfl, HB.out⟩
    ·have hil : i < l.length := by omega
     have hc : ((i : Int) < (l.length : Int)) = True := eq_true (by omega)
     have hi0 : ((0 : Int) ≤ (i : Int)) = True := eq_true (by omega)
     obtain ⟨ad, ead, hx0, hx1⟩ := at_KP HR0.out i hil
     cases ead
     replace hx0 := (HB.out.cell (World.block_lt_of_cell? w _ hx0)).trans hx0
     replace hx1 := (HB.out.cell (World.block_lt_of_cell? w _ hx1)).trans hx1
     have hrr := HR.out
     rw [List.drop_eq_getElem_cons hil, dckl] at hrr
     have hsx := HSZ.out _ (List.getElem_mem hil)
     have HX := Lib.hid (show l[i]? = some l[i] from List.getElem?_eq_getElem hil)
     generalize l[i] = x at hx0 hx1 hrr hsx HX
     obtain ⟨n, a⟩ := x
     have HRR2 := Lib.hid hrr; clear hrr
     have HSX := Lib.hid hsx; clear hsx
     simp only at hx0 hx1
     have HG := Lib.hid hg; clear hg hg0
     have HCK := Lib.hid fun W => check_calls a HSX.out W
     have hb5 : Below w.heap.size w (wr.alloc (.cells #[.int .i64 n, .string a] 60)) := HB.out.alloc HB.out.size _
     have c50 := lit0 wr (.int .i64 n) (.string a) 60
     have c51 := lit1 wr (.int .i64 n) (.string a) 60
     have HB5 := Lib.hid hb5; clear hb5
     have HLT := Lib.hid HB.out.size
     have hck0 : (chk a = 0) ∨ (chk a ≠ 0) := Classical.em _
     obtain ⟨ck, hcke⟩ : ∃ ck, ck = chk a := ⟨_, rfl⟩
     rw [← hcke] at HCK hck0
     have HCE := Lib.hid hcke; clear hcke
     have HC50 := Lib.hid c50; clear c50
     have HC51 := Lib.hid c51; clear c51
     rcases hck0 with hck | hck
     ·subst hck
      have hca : chk a = 0 := HCE.out.symm
      have HSG := Lib.hid (sign_f2 a hca HSX.out)
      have hne : ((0 : Int) == 0) = true := rfl
      by_cases hp : ival a ≤ 0
      ·have hr1 : r = 2 := by
        have h3 := HRR2.out
        have e1 : dck1 (prevv l i) (n, a) = 2 := by
         unfold dck1
         simp only
         rw [hca, if_neg (by decide), if_pos (.inl hp)]
        rw [e1, if_pos (by decide)] at h3; exact h3
       have hsl : (sgn (ival a) ≤ 0) = True := eq_true (by unfold sgn; split <;> (try split) <;> omega)
       generalize sgn (ival a) = s at HSG hsl
       subst hr1
       clear hp hca
       go_wp2_with fail
       generalize wr.alloc (.cells #[.int .i64 n, .string a] 60) = w5 at HB5 HC50 HC51 ⊢
       refine (HCK.out w5).mono ?_
       rintro e w6 ⟨rfl, hb6⟩
       have HB6 := Lib.hid (below_then HB5.out HB5.out.size hb6)
       have c60 := (hb6.cell (World.block_lt_of_cell? _ _ HC50.out)).trans HC50.out
       have c61 := (hb6.cell (World.block_lt_of_cell? _ _ HC51.out)).trans HC51.out
       clear hb6
       go_wp2_with fail
       refine (E.dist_sign.calls a s _ HSG.out).mono ?_
       rintro e w7 ⟨rfl, hb7⟩
       have HB7 := Lib.hid (below_then HB6.out HB6.out.size hb7); clear hb7
       go_wp2
       go_ret
       exact ⟨rfl, HB7.out⟩
      ·have hsl : (sgn (ival a) ≤ 0) = False := eq_false (by rw [sgn_pos (by omega)]; decide)
       have HWI := Lib.hid (within_f2 n)
       obtain ⟨bw, hbw⟩ : ∃ bw, bw = decide (-1048576 ≤ n ∧ n ≤ 1048576) := ⟨_, rfl⟩
       rw [← hbw] at HWI
       have hnz : dck1 (prevv l i) (n, a) = if bw = true then (match prevv l i with | none => 0 | some q => if n ≤ q then 9 else 0) else 2 := by
        unfold dck1
        simp only
        rw [hca, if_neg (by decide)]
        by_cases hin : -1048576 ≤ n ∧ n ≤ 1048576
        ·rw [if_neg (fun h => h.elim hp (fun h => h hin)), hbw, decide_eq_true hin, if_pos rfl]
        ·rw [if_pos (.inr hin), hbw, decide_eq_false hin, if_neg (by decide)]
       rw [hnz] at HRR2
       have HP := Lib.hid hp
       clear hbw hnz hp hca
       generalize sgn (ival a) = s at HSG hsl
       cases bw
       ·have hr1 : r = 2 := by
         have h3 := HRR2.out
         rw [if_neg (show ¬ (false = true) by decide), if_pos (by decide)] at h3; exact h3
        subst hr1
        go_wp2_with fail
        generalize wr.alloc (.cells #[.int .i64 n, .string a] 60) = w5 at HB5 HC50 HC51 ⊢
        refine (HCK.out w5).mono ?_
        rintro e w6 ⟨rfl, hb6⟩
        have HB6 := Lib.hid (below_then HB5.out HB5.out.size hb6)
        have c60 := (hb6.cell (World.block_lt_of_cell? _ _ HC50.out)).trans HC50.out
        have c61 := (hb6.cell (World.block_lt_of_cell? _ _ HC51.out)).trans HC51.out
        have HC60 := Lib.hid c60
        clear hb6
        go_wp2_with fail
        refine (E.dist_sign.calls a s _ HSG.out).mono ?_
        rintro e w7 ⟨rfl, hb7⟩
        have HB7 := Lib.hid (below_then HB6.out HB6.out.size hb7)
        have c70 := (hb7.cell (World.block_lt_of_cell? _ _ c60)).trans c60
        clear hb7
        clear c60 c61
        go_wp2_with fail
        refine (E.dist_within.calls n false _ HWI.out).mono ?_
        rintro e w8 ⟨rfl, nd, rfl⟩
        go_wp2
        go_ret
        exact ⟨rfl, pw_below_drewN HB7.out nd⟩
       ·have hr1 : r = if (match prevv l i with | none => (0 : Int) | some q => if n ≤ q then 9 else 0) ≠ 0 then (match prevv l i with | none => (0 : Int) | some q => if n ≤ q then 9 else 0) else dckl (some n) (l.drop (i + 1)) := by
         have h3 := HRR2.out
         rw [if_pos rfl] at h3; exact h3
        rcases Nat.eq_zero_or_pos i with hi | hi
        ·have hr2 : r = dckl (prevv l (i + 1)) (l.drop (i + 1)) := by
          have e1 : prevv l i = none := if_pos hi
          have e2 : prevv l (i + 1) = some n := by unfold prevv; rw [if_neg (by omega), Nat.add_sub_cancel, HX.out]; rfl
          rw [e1] at hr1
          rw [e2]
          simpa using hr1
         have HR2 := Lib.hid hr2
         have hi1 : (0 < i) = False := eq_false (by omega)
         clear hr1 hr2 hi
         go_wp2_with fail
         generalize hw5 : wr.alloc (.cells #[.int .i64 n, .string a] 60) = w5 at HB5 HC50 HC51 ⊢
         clear hw5
         refine (HCK.out w5).mono ?_
         rintro e w6 ⟨rfl, hb6⟩
         have HB6 := Lib.hid (below_then HB5.out HB5.out.size hb6)
         have c60 := (hb6.cell (World.block_lt_of_cell? _ _ HC50.out)).trans HC50.out
         have c61 := (hb6.cell (World.block_lt_of_cell? _ _ HC51.out)).trans HC51.out
         clear hb6
         go_wp2_with fail
         refine (E.dist_sign.calls a s _ HSG.out).mono ?_
         rintro e w7 ⟨rfl, hb7⟩
         have HB7 := Lib.hid (below_then HB6.out HB6.out.size hb7)
         have c70 := (hb7.cell (World.block_lt_of_cell? _ _ c60)).trans c60
         clear hb7
         clear c60 c61
         go_wp2_with fail
         refine (E.dist_within.calls n true _ HWI.out).mono ?_
         rintro e w8 ⟨rfl, nd, rfl⟩
         go_wp2
         go_quiet (fail)
         go_wp2
         obtain ⟨g', rfl⟩ : ∃ g', gk = g' + 1 := ⟨gk - 1, by have := HG.out; omega⟩
         go_roundg g'
         case measure => omega
         case rel => exact ⟨i + 1, by have := HL.out; rw [IntWalk.wrap64_in ((i : Int) + 1) (by omega)]; rfl, by have := HG.out; omega, HR2, Lib.hid (pw_below_drewN HB7.out _)⟩
        ·obtain ⟨m, hm⟩ : ∃ m, m = i - 1 := ⟨_, rfl⟩
         have hkl : m < l.length := by omega
         obtain ⟨ad2, ead2, hy0, hy1⟩ := at_KP HR0.out m hkl
         cases ead2
         clear hy1
         have hpv : prevv l i = some l[m].1 := by unfold prevv; rw [if_neg (by omega), ← hm, List.getElem?_eq_getElem hkl]; rfl
         have e2 : prevv l (i + 1) = some n := by unfold prevv; rw [if_neg (by omega), Nat.add_sub_cancel, HX.out]; rfl
         rw [hpv] at hr1
         simp only at hr1
         generalize l[m].1 = q at hy0 hr1 hpv
         clear hpv
         have hi1 : (0 < i) = True := eq_true (by omega)
         have hi2 : ((m : Int) < (l.length : Int)) = True := eq_true (by omega)
         have hi3 : ((0 : Int) ≤ (m : Int)) = True := eq_true (by omega)
         have hw : IntKind.i64.wrap ((i : Int) - 1) = (m : Int) := by rw [IntKind.wrap_i64]; have := HL.out; omega
         have HM := Lib.hid hm; clear hm hkl
         by_cases hq : n ≤ q
         ·have hr2 : r = 9 := by rw [if_pos hq, if_pos (by decide)] at hr1; exact hr1
          have hq' := eq_true hq
          subst hr2
          clear hr1 hi hq e2
          go_wp2_with fail
          generalize hw5 : wr.alloc (.cells #[.int .i64 n, .string a] 60) = w5 at HB5 HC50 HC51 ⊢
          clear hw5
          refine (HCK.out w5).mono ?_
          rintro e w6 ⟨rfl, hb6⟩
          have HB6 := Lib.hid (below_then HB5.out HB5.out.size hb6)
          have c60 := (hb6.cell (World.block_lt_of_cell? _ _ HC50.out)).trans HC50.out
          have c61 := (hb6.cell (World.block_lt_of_cell? _ _ HC51.out)).trans HC51.out
          clear hb6
          go_wp2_with fail
          refine (E.dist_sign.calls a s _ HSG.out).mono ?_
          rintro e w7 ⟨rfl, hb7⟩
          have HB7 := Lib.hid (below_then HB6.out HB6.out.size hb7)
          have c70 := (hb7.cell (World.block_lt_of_cell? _ _ c60)).trans c60
          clear hb7
          clear c60 c61
          go_wp2_with fail
          refine (E.dist_within.calls n true _ HWI.out).mono ?_
          rintro e w8 ⟨rfl, nd, rfl⟩
          have hy7 := (HB7.out.cell (World.block_lt_of_cell? w _ hy0)).trans hy0
          have HB8 := Lib.hid (pw_below_drewN HB7.out nd)
          replace c70 : (w7.drewN nd).cell? ⟨wr.heap.size, 0, none⟩ = some (.int .i64 n) := c70
          replace hy7 : (w7.drewN nd).cell? (ad.add (m * 2)) = some (.int .i64 q) := hy7
          generalize w7.drewN nd = w8 at c70 hy7 HB8 ⊢
          go_wp2
          go_quiet (fail)
          go_wp2
          go_ret
          exact ⟨rfl, pw_below_drewN HB8.out _⟩
         ·have hr2 : r = dckl (prevv l (i + 1)) (l.drop (i + 1)) := by
           rw [if_neg hq, if_neg (fun h => h rfl), ← e2] at hr1; exact hr1
          have HR2 := Lib.hid hr2
          have hq' := eq_false hq
          clear hr1 hr2 hi hq e2
          go_wp2_with fail
          generalize hw5 : wr.alloc (.cells #[.int .i64 n, .string a] 60) = w5 at HB5 HC50 HC51 ⊢
          clear hw5
          refine (HCK.out w5).mono ?_
          rintro e w6 ⟨rfl, hb6⟩
          have HB6 := Lib.hid (below_then HB5.out HB5.out.size hb6)
          have c60 := (hb6.cell (World.block_lt_of_cell? _ _ HC50.out)).trans HC50.out
          have c61 := (hb6.cell (World.block_lt_of_cell? _ _ HC51.out)).trans HC51.out
          clear hb6
          go_wp2_with fail
          refine (E.dist_sign.calls a s _ HSG.out).mono ?_
          rintro e w7 ⟨rfl, hb7⟩
          have HB7 := Lib.hid (below_then HB6.out HB6.out.size hb7)
          have c70 := (hb7.cell (World.block_lt_of_cell? _ _ c60)).trans c60
          clear hb7
          clear c60 c61
          go_wp2_with fail
          refine (E.dist_within.calls n true _ HWI.out).mono ?_
          rintro e w8 ⟨rfl, nd, rfl⟩
          have hy7 := (HB7.out.cell (World.block_lt_of_cell? w _ hy0)).trans hy0
          have HB8 := Lib.hid (pw_below_drewN HB7.out nd)
          replace c70 : (w7.drewN nd).cell? ⟨wr.heap.size, 0, none⟩ = some (.int .i64 n) := c70
          replace hy7 : (w7.drewN nd).cell? (ad.add (m * 2)) = some (.int .i64 q) := hy7
          generalize w7.drewN nd = w8 at c70 hy7 HB8 ⊢
          go_wp2
          go_quiet (fail)
          go_wp2
          obtain ⟨g', rfl⟩ : ∃ g', gk = g' + 1 := ⟨gk - 1, by have := HG.out; omega⟩
          go_roundg g'
          case measure => omega
          case rel => exact ⟨i + 1, by have := HL.out; rw [IntWalk.wrap64_in ((i : Int) + 1) (by omega)]; rfl, by have := HG.out; omega, HR2, Lib.hid (pw_below_drewN HB8.out _)⟩
     ·have hr1 : r = ck := by
       have h3 := HRR2.out
       have h4 := HCE.out
       have e1 : dck1 (prevv l i) (n, a) = ck := by
        unfold dck1
        simp only
        rw [← h4, if_pos hck]
       rw [e1, if_pos hck] at h3; exact h3
      have hne : (ck == 0) = false := beq_eq_false_iff_ne.2 hck
      subst hr1
      clear hck
      go_wp2_with fail
      generalize wr.alloc (.cells #[.int .i64 n, .string a] 60) = w5 at HB5 HC50 HC51 ⊢
      refine (HCK.out w5).mono ?_
      rintro e w6 ⟨rfl, hb6⟩
      have HB6 := Lib.hid (below_then HB5.out HB5.out.size hb6); clear hb6
      go_wp2
      go_ret
      exact ⟨rfl, HB6.out⟩
end Go.Proofs.YtkdpcgmnkifbbaaGreatDoor
end
section
namespace Go.Proofs.YtkdpcgmnkifbbaaGreatDoor
open Go.RowKit Go.Proofs.YtkdpcgmnkifbbaaGreatDoorW.PrintWords Go.Proofs.YtkdpcgmnkifbbaaGreatDoorW.PrintMore
set_option maxRecDepth 100000 in
set_option maxHeartbeats 4000000 in
theorem weight_calls (n : Int) (a : ByteArray) (w : World) :
  Calls Tryz.prog 41 #[.agg #[.int .i64 n, .string a]] w (TwoPost w (a, 0)) := by
 go_enter Tryz.func41, Tryz.ntmps41
 go_wp2
 go_ret2
 exact ⟨rfl, (Below.refl _ _).alloc (Nat.le_refl _) _⟩
def pick (lo hi n u : Int) : Int := if n < lo ∨ hi < n then 0 else u
set_option maxRecDepth 100000 in
set_option maxHeartbeats 4000000 in
theorem pick_calls (c : Nat) (lo hi n : Int) (a : ByteArray) (w : World) (h0 : w.cell? ⟨c, 0, none⟩ = some (.int .i64 lo)) (h1 : w.cell? ⟨c, 1, none⟩ = some (.int .i64 hi)) (ha : chk a = 0) :
  Calls Tryz.prog 34 #[.agg #[.int .i64 n, .string a], .pointer (some ⟨c, 0, none⟩)] w (TwoPost w (itx (pick lo hi n (ival a)), 0)) := by
 have ea := (chk_zero ha).1
 have hc : c < w.heap.size := World.block_lt_of_cell? _ _ h0
 have k0 : (w.alloc (.cells #[.int .i64 n, .string a] 60)).cell? ⟨c, 0, none⟩ = some (.int .i64 lo) := (((Below.refl w.heap.size w).alloc (Nat.le_refl _) _).cell hc).trans h0
 have k1 : (w.alloc (.cells #[.int .i64 n, .string a] 60)).cell? ⟨c, 1, none⟩ = some (.int .i64 hi) := (((Below.refl w.heap.size w).alloc (Nat.le_refl _) _).cell hc).trans h1
 by_cases hl : n < lo
 ·have e : pick lo hi n (ival a) = 0 := if_pos (.inl hl)
  rw [e, itx_zero]
  have hl' := eq_true hl
  clear hl e ea ha
  go_enter Tryz.func34, Tryz.ntmps34
  go_wp2
  go_ret2
  exact ⟨rfl, (Below.refl _ _).alloc (Nat.le_refl _) _⟩
 ·by_cases hh : hi < n
  ·have e : pick lo hi n (ival a) = 0 := if_pos (.inr hh)
   rw [e, itx_zero]
   have hl' := eq_false hl
   have hh' := eq_true hh
   clear hl hh e ea ha
   go_enter Tryz.func34, Tryz.ntmps34
   go_wp2
   go_ret2
   exact ⟨rfl, (Below.refl _ _).alloc (Nat.le_refl _) _⟩
  ·have e : pick lo hi n (ival a) = ival a := if_neg (fun h => h.elim hl hh)
   rw [e, ← ea]
   have hl' := eq_false hl
   have hh' := eq_false hh
   clear hl hh e ea ha
   go_enter Tryz.func34, Tryz.ntmps34
   go_wp2
   go_ret2
   exact ⟨rfl, (Below.refl _ _).alloc (Nat.le_refl _) _⟩
set_option maxRecDepth 100000 in
set_option maxHeartbeats 4000000 in
theorem mom_calls (c pw : Nat) (n : Int) (a : ByteArray) (w : World) (h0 : w.cell? ⟨c, 0, none⟩ = some (.int .i64 pw)) (hp : pw ≤ 1000) (ha : chk a = 0) (hn0 : -9223372036854775808 < n) (hn1 : n < 9223372036854775807) (hf : ∀ i, i ≤ pw → fits (ival a * n ^ i)) (ht : Tabs w) :
  Calls Tryz.prog 77 #[.agg #[.int .i64 n, .string a], .pointer (some ⟨c, 0, none⟩)] w (TwoPost w (itx (ival a * n ^ pw), 0)) := by
 have hb1 : Below w.heap.size w (w.alloc (.cells #[.int .i64 n, .string a] 60)) := (Below.refl w.heap.size w).alloc (Nat.le_refl _) _
 have k0 : (w.alloc (.cells #[.int .i64 n, .string a] 60)).cell? ⟨c, 0, none⟩ = some (.int .i64 pw) := (hb1.cell (World.block_lt_of_cell? _ _ h0)).trans h0
 have c0 := lit0 w (.int .i64 n) (.string a) 60
 have HB1 := Lib.hid hb1; clear hb1 h0
 have HT := Lib.hid ht; clear ht
 have HF := Lib.hid hf; clear hf
 have HA := Lib.hid ha; clear ha
 have HN := Lib.hid (And.intro hn0 hn1); clear hn0 hn1
 have HP := Lib.hid hp; clear hp
 go_enter Tryz.func77, Tryz.ntmps77
 go_wp2
 generalize w.alloc (.cells #[.int .i64 n, .string a] 60) = w1 at k0 c0 HB1 ⊢
 have HC0 := Lib.hid c0; clear c0 k0
 go_loopg [5, 10] pw (fun g v5 v10 wr => ∃ i : Nat, v5 = .string (itx (ival a * n ^ i)) ∧ v10 = .int .i64 (i : Int) ∧ g + i = pw ∧ Hid (Below w1.heap.size w1 wr))
 case atStart => exact ⟨0, by rw [Int.pow_zero, Int.mul_one, ← (chk_zero HA.out).1], rfl, by omega, Lib.hid (Below.refl _ _)⟩
 case round =>
  obtain ⟨i, rfl, rfl, hg, HB⟩ := hrel
  rcases Nat.eq_zero_or_pos gk with hg0 | hg0
  ·have hip : i = pw := by omega
   have hc : ((i : Int) < (pw : Int)) = False := eq_false (by omega)
   have hc2 : (i < pw) = False := eq_false (by omega)
   have HIP := Lib.hid hip
   clear hip hg hg0
   go_wp2
   go_ret2
   exact ⟨by rw [HIP.out]; rfl, below_then HB1.out HB1.out.size HB.out⟩
  ·have hip : i < pw := by omega
   have hc : ((i : Int) < (pw : Int)) = True := eq_true (by omega)
   have hc2 : (i < pw) = True := eq_true (by omega)
   have hcr := (HB.out.cell (World.block_lt_of_cell? _ _ HC0.out)).trans HC0.out
   have f1 := HF.out i (by omega)
   have f2 := HF.out (i + 1) (by omega)
   rw [Int.pow_succ, ← Int.mul_assoc] at f2
   have hsz : fits n := fits_small (by have := HN.out; omega)
   have hmul : two (itx (ival a * n ^ i)) (itx n) (kept (ival (itx (ival a * n ^ i)) * ival (itx n))) = (itx (ival a * n ^ i * n), 0) := by
    rw [two_go (chk_fits f1) (chk_fits hsz), ival_itx, ival_itx, kept_fits f2]
   have HMUL := Lib.hid hmul; clear hmul
   have HS1 := Lib.hid (Nat.le_trans (chk_size (chk_fits f1)) (show 1025 ≤ 9223372036854775807 by decide))
   have HS2 := Lib.hid (Nat.le_trans (chk_size (chk_fits hsz)) (show 1025 ≤ 9223372036854775807 by decide))
   have HE := Lib.hid (show ival a * n ^ i * n = ival a * n ^ (i + 1) by rw [Int.pow_succ, Int.mul_assoc])
   have HG := Lib.hid hg; clear hg
   generalize itx (ival a * n ^ i) = s at HMUL HS1
   have HIP := Lib.hid hip
   clear f1 f2 hsz hip hg0
   go_wp2_with fail
   refine (C.whole_Of.calls n (itx n) wr (of_f n (Int.le_of_lt HN.out.1) (Int.le_of_lt HN.out.2)) (Aside0.mk ((HT.out.below HB1.out).below HB.out))).mono ?_
   rintro e w3 ⟨rfl, hb3⟩
   have HB3 := Lib.hid (below_then HB.out HB.out.size hb3); clear hb3
   go_wp2_with fail
   have hm := mul_calls s (itx n) HS1.out HS2.out w3 ((HT.out.below HB1.out).below HB3.out)
   rw [HMUL.out, HE.out] at hm
   refine hm.mono ?_
   rintro e w4 ⟨rfl, hb4⟩
   have HB4 := Lib.hid (below_then HB3.out HB3.out.size hb4); clear hb4 hm
   go_wp2
   obtain ⟨g', rfl⟩ : ∃ g', gk = g' + 1 := ⟨gk - 1, by have := HG.out; have := HIP.out; omega⟩
   go_roundg g'
   case measure => omega
   case rel => exact ⟨i + 1, rfl, by have := HP.out; have := HG.out; rw [IntWalk.wrap64_in ((i : Int) + 1) (by omega)]; rfl, by have := HG.out; omega, HB4⟩
end Go.Proofs.YtkdpcgmnkifbbaaGreatDoor
end
section
namespace Go.Proofs.YtkdpcgmnkifbbaaGreatDoor
open Go.RowKit Go.Proofs.YtkdpcgmnkifbbaaGreatDoorW.PrintWords Go.Proofs.YtkdpcgmnkifbbaaGreatDoorW.PrintMore
def sumf (f : Int × ByteArray → Int) (l : List (Int × ByteArray)) : Int := l.foldl (fun s x => s + f x) 0
theorem sumf_snoc (f : Int × ByteArray → Int) (l : List (Int × ByteArray)) (x : Int × ByteArray) : sumf f (l ++ [x]) = sumf f l + f x := by simp [sumf]
theorem sumf_take (f : Int × ByteArray → Int) (l : List (Int × ByteArray)) (i : Nat) (h : i < l.length) : sumf f (l.take (i + 1)) = sumf f (l.take i) + f l[i] := by
 rw [← sumf_snoc, List.take_append_getElem h]
def fW (x : Int × ByteArray) : Int := ival x.2
def fP (lo hi : Int) (x : Int × ByteArray) : Int := pick lo hi x.1 (ival x.2)
def fM (pw : Nat) (x : Int × ByteArray) : Int := ival x.2 * x.1 ^ pw
set_option maxRecDepth 100000 in
set_option maxHeartbeats 4000000 in
theorem sum_W (A0 : Option Addr) (c0 : Nat) (l : List (Int × ByteArray)) (w : World) (hr0 : Kd.C KP w A0 l.length l) (hc0 : l.length ≤ c0) (hck : ∀ x ∈ l, chk x.2 = 0) (hn : l.length ≤ 4096)
  (hf : ∀ i, i ≤ l.length → fits (sumf fW (l.take i))) (hg : ∀ x ∈ l, fits (fW x)) (ht : Tabs w) :
  Calls Tryz.prog 40 #[.slice A0 l.length c0, .func (.func 41) #[] #[]] w (TwoPost w (itx (sumf fW l), 0)) := by
 have HR0 := Lib.hid hr0; clear hr0
 have HC0 := Lib.hid hc0; clear hc0
 have HCK := Lib.hid hck; clear hck
 have HN := Lib.hid hn; clear hn
 have HF := Lib.hid hf; clear hf
 have HG := Lib.hid hg; clear hg
 have HT := Lib.hid ht; clear ht
 go_enter Tryz.func40, Tryz.ntmps40
 go_wp2
 go_loopg [6, 13] l.length (fun g v6 v13 wr => ∃ (i : Nat) (s : Int), v6 = .string (itx s) ∧ v13 = .int .i64 (i : Int) ∧ g + i = l.length ∧ Hid (s = sumf fW (l.take i)) ∧ Hid (Below w.heap.size w wr))
 case atStart => exact ⟨0, 0, by rw [itx_zero], rfl, by omega, Lib.hid rfl, Lib.hid (Below.refl _ _)⟩
 case round =>
  obtain ⟨i, s, rfl, rfl, hg, HS, HB⟩ := hrel
  rcases Nat.eq_zero_or_pos gk with hg0 | hg0
  ·have hc : ((i : Int) < (l.length : Int)) = False := eq_false (by omega)
   have hc2 : (i < l.length) = False := eq_false (by omega)
   have hs := HS.out
   rw [List.take_of_length_le (by omega)] at hs
   have HS1 := Lib.hid hs; clear hs
   clear hg hg0
   go_wp2
   go_ret2
   exact ⟨by rw [HS1.out]; rfl, HB.out⟩
  ·have hil : i < l.length := by omega
   have hc : ((i : Int) < (l.length : Int)) = True := eq_true (by omega)
   have hi0 : ((0 : Int) ≤ (i : Int)) = True := eq_true (by omega)
   obtain ⟨ad, ead, hx0, hx1⟩ := at_KP HR0.out i hil
   cases ead
   replace hx0 := (HB.out.cell (World.block_lt_of_cell? w _ hx0)).trans hx0
   replace hx1 := (HB.out.cell (World.block_lt_of_cell? w _ hx1)).trans hx1
   have f0 := HF.out i (by omega)
   have f1 := HF.out (i + 1) hil
   have hst := sumf_take fW l i hil
   rw [hst] at f1
   have f2 := HG.out _ (List.getElem_mem hil)
   have HCK2 := Lib.hid (HCK.out _ (List.getElem_mem hil))
   have HST := Lib.hid hst; clear hst
   generalize l[i] = x at hx0 hx1 f1 f2 HCK2 HST
   obtain ⟨n, a⟩ := x
   simp only at hx0 hx1
   rw [← HS.out] at f0 f1 HST
   obtain ⟨p, hp⟩ : ∃ p, p = fW (n, a) := ⟨_, rfl⟩
   rw [← hp] at f1 f2 HST
   have HP := Lib.hid hp; clear hp
   have hadd : L.whole_Add.f (itx s) (itx p) = some (itx (s + p), 0) := by
    rw [add_f _ _ (Nat.le_trans (chk_size (chk_fits f0)) (by decide)) (Nat.le_trans (chk_size (chk_fits f2)) (by decide)), two_go (chk_fits f0) (chk_fits f2), ival_itx, ival_itx, kept_fits f1]
   have HADD := Lib.hid hadd; clear hadd
   have hb5 : Below w.heap.size w (wr.alloc (.cells #[.int .i64 n, .string a] 60)) := HB.out.alloc HB.out.size _
   have c50 := lit0 wr (.int .i64 n) (.string a) 60
   have c51 := lit1 wr (.int .i64 n) (.string a) 60
   have HB5 := Lib.hid hb5; clear hb5
   have HGK := Lib.hid hg; clear hg
   have HIL := Lib.hid hil
   clear f0 f1 f2 hg0 hil
   generalize hw5 : wr.alloc (.cells #[.int .i64 n, .string a] 60) = w5 at HB5 c50 c51
   go_wp2_with fail
   clear hw5
   have hcall := weight_calls n a w5
   have ea : itx p = a := by rw [HP.out]; exact (chk_zero HCK2.out).1.symm
   rw [ea] at HADD
   clear ea
   refine hcall.mono ?_
   rintro e w6 ⟨rfl, hb6⟩
   have HB6 := Lib.hid (below_then HB5.out HB5.out.size hb6); clear hb6 hcall
   go_wp2_with fail
   refine (L.whole_Add.calls (itx s) a _ _ w6 HADD.out (Aside0.mk (HT.out.below HB6.out))).mono ?_
   rintro e w7 ⟨rfl, hb7⟩
   have HB7 := Lib.hid (below_then HB6.out HB6.out.size hb7); clear hb7
   go_wp2
   obtain ⟨g', rfl⟩ : ∃ g', gk = g' + 1 := ⟨gk - 1, by have := HGK.out; have := HIL.out; omega⟩
   go_roundg g'
   case measure => omega
   case rel => exact ⟨i + 1, s + p, rfl, by have := HN.out; have := HIL.out; rw [IntWalk.wrap64_in ((i : Int) + 1) (by omega)]; rfl, by have := HGK.out; omega, Lib.hid HST.out.symm, HB7⟩
set_option maxRecDepth 100000 in
set_option maxHeartbeats 4000000 in
theorem sum_P (c : Nat) (lo hi : Int) (A0 : Option Addr) (c0 : Nat) (l : List (Int × ByteArray)) (w : World) (hr0 : Kd.C KP w A0 l.length l) (hc0 : l.length ≤ c0) (hck : ∀ x ∈ l, chk x.2 = 0) (hn : l.length ≤ 4096)
  (hf : ∀ i, i ≤ l.length → fits (sumf (fP lo hi) (l.take i))) (hg : ∀ x ∈ l, fits ((fP lo hi) x)) (k0 : w.cell? ⟨c, 0, none⟩ = some (.int .i64 lo)) (k1 : w.cell? ⟨c, 1, none⟩ = some (.int .i64 hi)) (ht : Tabs w) :
  Calls Tryz.prog 40 #[.slice A0 l.length c0, .func (.func 34) #[] #[.pointer (some ⟨c, 0, none⟩)]] w (TwoPost w (itx (sumf (fP lo hi) l), 0)) := by
 have HR0 := Lib.hid hr0; clear hr0
 have HC0 := Lib.hid hc0; clear hc0
 have HCK := Lib.hid hck; clear hck
 have HN := Lib.hid hn; clear hn
 have HF := Lib.hid hf; clear hf
 have HG := Lib.hid hg; clear hg
 have HT := Lib.hid ht; clear ht
 have K0 := Lib.hid k0; clear k0
 have K1 := Lib.hid k1; clear k1
 go_enter Tryz.func40, Tryz.ntmps40
 go_wp2
 go_loopg [6, 13] l.length (fun g v6 v13 wr => ∃ (i : Nat) (s : Int), v6 = .string (itx s) ∧ v13 = .int .i64 (i : Int) ∧ g + i = l.length ∧ Hid (s = sumf (fP lo hi) (l.take i)) ∧ Hid (Below w.heap.size w wr))
 case atStart => exact ⟨0, 0, by rw [itx_zero], rfl, by omega, Lib.hid rfl, Lib.hid (Below.refl _ _)⟩
 case round =>
  obtain ⟨i, s, rfl, rfl, hg, HS, HB⟩ := hrel
  rcases Nat.eq_zero_or_pos gk with hg0 | hg0
  ·have hc : ((i : Int) < (l.length : Int)) = False := eq_false (by omega)
   have hc2 : (i < l.length) = False := eq_false (by omega)
   have hs := HS.out
   rw [List.take_of_length_le (by omega)] at hs
   have HS1 := Lib.hid hs; clear hs
   clear hg hg0
   go_wp2
   go_ret2
   exact ⟨by rw [HS1.out]; rfl, HB.out⟩
  ·have hil : i < l.length := by omega
   have hc : ((i : Int) < (l.length : Int)) = True := eq_true (by omega)
   have hi0 : ((0 : Int) ≤ (i : Int)) = True := eq_true (by omega)
   obtain ⟨ad, ead, hx0, hx1⟩ := at_KP HR0.out i hil
   cases ead
   replace hx0 := (HB.out.cell (World.block_lt_of_cell? w _ hx0)).trans hx0
   replace hx1 := (HB.out.cell (World.block_lt_of_cell? w _ hx1)).trans hx1
   have f0 := HF.out i (by omega)
   have f1 := HF.out (i + 1) hil
   have hst := sumf_take (fP lo hi) l i hil
   rw [hst] at f1
   have f2 := HG.out _ (List.getElem_mem hil)
   have HCK2 := Lib.hid (HCK.out _ (List.getElem_mem hil))
   have HST := Lib.hid hst; clear hst
   generalize l[i] = x at hx0 hx1 f1 f2 HCK2 HST
   obtain ⟨n, a⟩ := x
   simp only at hx0 hx1
   rw [← HS.out] at f0 f1 HST
   obtain ⟨p, hp⟩ : ∃ p, p = (fP lo hi) (n, a) := ⟨_, rfl⟩
   rw [← hp] at f1 f2 HST
   have HP := Lib.hid hp; clear hp
   have hadd : L.whole_Add.f (itx s) (itx p) = some (itx (s + p), 0) := by
    rw [add_f _ _ (Nat.le_trans (chk_size (chk_fits f0)) (by decide)) (Nat.le_trans (chk_size (chk_fits f2)) (by decide)), two_go (chk_fits f0) (chk_fits f2), ival_itx, ival_itx, kept_fits f1]
   have HADD := Lib.hid hadd; clear hadd
   have hb5 : Below w.heap.size w (wr.alloc (.cells #[.int .i64 n, .string a] 60)) := HB.out.alloc HB.out.size _
   have c50 := lit0 wr (.int .i64 n) (.string a) 60
   have c51 := lit1 wr (.int .i64 n) (.string a) 60
   have HB5 := Lib.hid hb5; clear hb5
   have HGK := Lib.hid hg; clear hg
   have HIL := Lib.hid hil
   clear f0 f1 f2 hg0 hil
   generalize hw5 : wr.alloc (.cells #[.int .i64 n, .string a] 60) = w5 at HB5 c50 c51
   go_wp2_with fail
   clear hw5
   have hcall := pick_calls c lo hi n a w5 (HB5.out.cell (World.block_lt_of_cell? _ _ K0.out) |>.trans K0.out) (HB5.out.cell (World.block_lt_of_cell? _ _ K1.out) |>.trans K1.out) HCK2.out
   rw [show itx (pick lo hi n (ival a)) = itx p from by rw [HP.out]; rfl] at hcall
   refine hcall.mono ?_
   rintro e w6 ⟨rfl, hb6⟩
   have HB6 := Lib.hid (below_then HB5.out HB5.out.size hb6); clear hb6 hcall
   go_wp2_with fail
   refine (L.whole_Add.calls (itx s) (itx p) _ _ w6 HADD.out (Aside0.mk (HT.out.below HB6.out))).mono ?_
   rintro e w7 ⟨rfl, hb7⟩
   have HB7 := Lib.hid (below_then HB6.out HB6.out.size hb7); clear hb7
   go_wp2
   obtain ⟨g', rfl⟩ : ∃ g', gk = g' + 1 := ⟨gk - 1, by have := HGK.out; have := HIL.out; omega⟩
   go_roundg g'
   case measure => omega
   case rel => exact ⟨i + 1, s + p, rfl, by have := HN.out; have := HIL.out; rw [IntWalk.wrap64_in ((i : Int) + 1) (by omega)]; rfl, by have := HGK.out; omega, Lib.hid HST.out.symm, HB7⟩
set_option maxRecDepth 100000 in
set_option maxHeartbeats 4000000 in
theorem sum_M (c pw : Nat) (A0 : Option Addr) (c0 : Nat) (l : List (Int × ByteArray)) (w : World) (hr0 : Kd.C KP w A0 l.length l) (hc0 : l.length ≤ c0) (hck : ∀ x ∈ l, chk x.2 = 0) (hn : l.length ≤ 4096)
  (hf : ∀ i, i ≤ l.length → fits (sumf (fM pw) (l.take i))) (hg : ∀ x ∈ l, fits ((fM pw) x)) (k0 : w.cell? ⟨c, 0, none⟩ = some (.int .i64 pw)) (hpw : pw ≤ 1000) (hval : ∀ x ∈ l, -9223372036854775808 < x.1 ∧ x.1 < 9223372036854775807) (hpf : ∀ x ∈ l, ∀ i, i ≤ pw → fits (ival x.2 * x.1 ^ i)) (ht : Tabs w) :
  Calls Tryz.prog 40 #[.slice A0 l.length c0, .func (.func 77) #[] #[.pointer (some ⟨c, 0, none⟩)]] w (TwoPost w (itx (sumf (fM pw) l), 0)) := by
 have HR0 := Lib.hid hr0; clear hr0
 have HC0 := Lib.hid hc0; clear hc0
 have HCK := Lib.hid hck; clear hck
 have HN := Lib.hid hn; clear hn
 have HF := Lib.hid hf; clear hf
 have HG := Lib.hid hg; clear hg
 have HT := Lib.hid ht; clear ht
 have K0 := Lib.hid k0; clear k0
 have HPW := Lib.hid hpw; clear hpw
 have HVAL := Lib.hid hval; clear hval
 have HPF := Lib.hid hpf; clear hpf
 go_enter Tryz.func40, Tryz.ntmps40
 go_wp2
 go_loopg [6, 13] l.length (fun g v6 v13 wr => ∃ (i : Nat) (s : Int), v6 = .string (itx s) ∧ v13 = .int .i64 (i : Int) ∧ g + i = l.length ∧ Hid (s = sumf (fM pw) (l.take i)) ∧ Hid (Below w.heap.size w wr))
 case atStart => exact ⟨0, 0, by rw [itx_zero], rfl, by omega, Lib.hid rfl, Lib.hid (Below.refl _ _)⟩
 case round =>
  obtain ⟨i, s, rfl, rfl, hg, HS, HB⟩ := hrel
  rcases Nat.eq_zero_or_pos gk with hg0 | hg0
  ·have hc : ((i : Int) < (l.length : Int)) = False := eq_false (by omega)
   have hc2 : (i < l.length) = False := eq_false (by omega)
   have hs := HS.out
   rw [List.take_of_length_le (by omega)] at hs
   have HS1 := Lib.hid hs; clear hs
   clear hg hg0
   go_wp2
   go_ret2
   exact ⟨by rw [HS1.out]; rfl, HB.out⟩
  ·have hil : i < l.length := by omega
   have hc : ((i : Int) < (l.length : Int)) = True := eq_true (by omega)
   have hi0 : ((0 : Int) ≤ (i : Int)) = True := eq_true (by omega)
   obtain ⟨ad, ead, hx0, hx1⟩ := at_KP HR0.out i hil
   cases ead
   replace hx0 := (HB.out.cell (World.block_lt_of_cell? w _ hx0)).trans hx0
   replace hx1 := (HB.out.cell (World.block_lt_of_cell? w _ hx1)).trans hx1
   have f0 := HF.out i (by omega)
   have f1 := HF.out (i + 1) hil
   have hst := sumf_take (fM pw) l i hil
   rw [hst] at f1
   have f2 := HG.out _ (List.getElem_mem hil)
   have HCK2 := Lib.hid (HCK.out _ (List.getElem_mem hil))
   have HVX := Lib.hid (HVAL.out _ (List.getElem_mem hil))
   have HPX := Lib.hid (HPF.out _ (List.getElem_mem hil))
   have HST := Lib.hid hst; clear hst
   generalize l[i] = x at hx0 hx1 f1 f2 HCK2 HST HVX HPX
   obtain ⟨n, a⟩ := x
   simp only at hx0 hx1
   rw [← HS.out] at f0 f1 HST
   obtain ⟨p, hp⟩ : ∃ p, p = (fM pw) (n, a) := ⟨_, rfl⟩
   rw [← hp] at f1 f2 HST
   have HP := Lib.hid hp; clear hp
   have hadd : L.whole_Add.f (itx s) (itx p) = some (itx (s + p), 0) := by
    rw [add_f _ _ (Nat.le_trans (chk_size (chk_fits f0)) (by decide)) (Nat.le_trans (chk_size (chk_fits f2)) (by decide)), two_go (chk_fits f0) (chk_fits f2), ival_itx, ival_itx, kept_fits f1]
   have HADD := Lib.hid hadd; clear hadd
   have hb5 : Below w.heap.size w (wr.alloc (.cells #[.int .i64 n, .string a] 60)) := HB.out.alloc HB.out.size _
   have c50 := lit0 wr (.int .i64 n) (.string a) 60
   have c51 := lit1 wr (.int .i64 n) (.string a) 60
   have HB5 := Lib.hid hb5; clear hb5
   have HGK := Lib.hid hg; clear hg
   have HIL := Lib.hid hil
   clear f0 f1 f2 hg0 hil
   generalize hw5 : wr.alloc (.cells #[.int .i64 n, .string a] 60) = w5 at HB5 c50 c51
   go_wp2_with fail
   clear hw5
   have hcall := mom_calls c pw n a w5 (HB5.out.cell (World.block_lt_of_cell? _ _ K0.out) |>.trans K0.out) HPW.out HCK2.out HVX.out.1 HVX.out.2 HPX.out (HT.out.below HB5.out)
   rw [show itx (ival a * n ^ pw) = itx p from by rw [HP.out]; rfl] at hcall
   refine hcall.mono ?_
   rintro e w6 ⟨rfl, hb6⟩
   have HB6 := Lib.hid (below_then HB5.out HB5.out.size hb6); clear hb6 hcall
   go_wp2_with fail
   refine (L.whole_Add.calls (itx s) (itx p) _ _ w6 HADD.out (Aside0.mk (HT.out.below HB6.out))).mono ?_
   rintro e w7 ⟨rfl, hb7⟩
   have HB7 := Lib.hid (below_then HB6.out HB6.out.size hb7); clear hb7
   go_wp2
   obtain ⟨g', rfl⟩ : ∃ g', gk = g' + 1 := ⟨gk - 1, by have := HGK.out; have := HIL.out; omega⟩
   go_roundg g'
   case measure => omega
   case rel => exact ⟨i + 1, s + p, rfl, by have := HN.out; have := HIL.out; rw [IntWalk.wrap64_in ((i : Int) + 1) (by omega)]; rfl, by have := HGK.out; omega, Lib.hid HST.out.symm, HB7⟩
end Go.Proofs.YtkdpcgmnkifbbaaGreatDoor
end
section
namespace Go.Proofs.YtkdpcgmnkifbbaaGreatDoor
open Go.RowKit Go.Proofs.YtkdpcgmnkifbbaaGreatDoorW.PrintWords Go.Proofs.YtkdpcgmnkifbbaaGreatDoorW.PrintMore
theorem dd_no47 (m : Nat) : (47 : UInt8) ∉ Lib.decDigits m := by
 intro h
 have := dd_all m
 rw [List.all_eq_true] at this
 exact absurd (this _ h) (by decide)
theorem itx_no47 (v : Int) : (47 : UInt8) ∉ (itx v).data.toList := by
 rw [itx_list]
 unfold Lib.itoa
 split
 ·rw [List.mem_cons, not_or]; exact ⟨by decide, dd_no47 _⟩
 ·exact dd_no47 _
theorem rtx_list (q : Rat) : (rtx q).data.toList = if q.den = 1 then (itx q.num).data.toList else (itx q.num).data.toList ++ 47 :: (itx (q.den : Int)).data.toList := by
 unfold rtx
 split
 ·rfl
 ·rw [ByteArray.data_append, ByteArray.data_append, Array.toList_append, Array.toList_append, List.append_assoc]; rfl
theorem bas_of (a : ByteArray) : bas a.data.toList = a := Lib.mk_data a
theorem cutF_rtx (q : Rat) : cutF (rtx q) = (itx q.num, itx (q.den : Int), !decide (q.den = 1)) := by
 by_cases h : q.den = 1
 ·unfold cutF
  rw [rtx_list, if_pos h, cutL_no (itx_no47 _)]
  unfold rtx
  rw [if_pos h, h, one_text]; rfl
 ·unfold cutF
  rw [rtx_list, if_neg h, cutL_of (itx_no47 _)]
  simp only [bas_of, decide_eq_false h, Bool.not_false]
theorem rnum_rtx (q : Rat) : rnum (rtx q) = q.num := by unfold rnum; rw [cutF_rtx, ival_itx]
theorem rden_rtx (q : Rat) : rden (rtx q) = q.den := by unfold rden; rw [cutF_rtx, ival_itx]
def rval (a : ByteArray) : Rat := Rat.divInt (rnum a) (rden a)
theorem rval_rtx (q : Rat) : rval (rtx q) = q := by unfold rval; rw [rnum_rtx, rden_rtx, Rat.num_divInt_den]
theorem gcdv_num (q : Rat) : gcdv q.num q.den = 1 := by
 unfold gcdv
 have := q.reduced
 unfold Nat.Coprime at this
 rw [Int.natAbs_natCast, this]; rfl
theorem rchk_rtx (q : Rat) : rchk (rtx q) = if fits q.num ∧ fits (q.den : Int) then 0 else 11 := by
 unfold rchk
 rw [cutF_rtx]
 simp only [chk_itx, ival_itx, gcdv_num]
 have := q.den_nz
 have h3 : q.den ≠ 1 → (1 : Int) < q.den := fun h => by omega
 by_cases h1 : fits q.num <;> by_cases h2 : fits (q.den : Int) <;> by_cases h : q.den = 1 <;> first | (simp [h1, h2, h, h3]; done) | (rw [h] at h2 ⊢; simp at h2; simp [h1, h2])
theorem divInt_low {u v : Int} (hv : 0 < v) (h : gcdv u v = 1) : (Rat.divInt u v).num = u ∧ ((Rat.divInt u v).den : Int) = v := by
 constructor
 ·rw [Rat.num_divInt, gcd_eq, h, Int.sign_eq_one_of_pos hv, Int.one_mul, Int.ediv_one]
 ·rw [Rat.den_divInt, if_neg (by omega), Int.natCast_ediv, gcd_eq, h, Int.ediv_one]; omega
theorem divInt_le {u v : Int} (hv : v ≠ 0) : (Rat.divInt u v).num.natAbs ≤ u.natAbs ∧ (Rat.divInt u v).den ≤ v.natAbs := by
 constructor
 ·rw [← low_num hv]; exact quo_le _ _ (gdiv_ne hv)
 ·have := quo_le v (gdiv u v) (gdiv_ne hv)
  rw [low_den hv] at this; omega
end Go.Proofs.YtkdpcgmnkifbbaaGreatDoor
end
