/- Joined by a program of this session out of its texts, with only what the last theorem needs: Dd Re Rf Rg Rh Rj Rk Rl. No conditions but those stated. -/
import Derived.Test.YtkdpcgmnkifbbaaGreatDoorZM15
import Derived.Test.YtkdpcgmnkifbbaaGreatDoorZM10
import Derived.Test.YtkdpcgmnkifbbaaGreatDoorZM13
set_option linter.unusedVariables false
set_option linter.unusedSimpArgs false
namespace Go.Proofs.YtkdpcgmnkifbbaaGreatDoorW.PrintMore
end Go.Proofs.YtkdpcgmnkifbbaaGreatDoorW.PrintMore
namespace Go.Proofs.YtkdpcgmnkifbbaaGreatDoorW.PrintWords
end Go.Proofs.YtkdpcgmnkifbbaaGreatDoorW.PrintWords
section
namespace Go.Proofs.YtkdpcgmnkifbbaaGreatDoor
open Go.RowKit Go.Proofs.YtkdpcgmnkifbbaaGreatDoorW.PrintWords Go.Proofs.YtkdpcgmnkifbbaaGreatDoorW.PrintMore
structure Gd (l : List (Int × ByteArray)) : Prop where
 ne : l ≠ []
 len : l.length ≤ 4096
 ck : ∀ x ∈ l, chk x.2 = 0
 pos : ∀ x ∈ l, 0 < ival x.2
 val : ∀ x ∈ l, -1048576 ≤ x.1 ∧ x.1 ≤ 1048576
 lim : ∀ x ∈ l, (ival x.2).natAbs < 10 ^ 60
theorem dckl_all : ∀ {l : List (Int × ByteArray)} {p : Option Int}, dckl p l = 0 → ∀ x ∈ l, chk x.2 = 0 ∧ 0 < ival x.2 ∧ (-1048576 ≤ x.1 ∧ x.1 ≤ 1048576)
 | [], _, _, x, hx => by simp at hx
 | y :: t, p, h, x, hx => by
  unfold dckl at h
  by_cases h1 : dck1 p y = 0
  ·rw [if_neg (fun h2 => h2 h1)] at h
   rcases List.mem_cons.1 hx with rfl | hx
   ·unfold dck1 at h1
    by_cases h2 : chk x.2 = 0
    ·rw [if_neg (fun h3 => h3 h2)] at h1
     by_cases h3 : ival x.2 ≤ 0 ∨ ¬ (-1048576 ≤ x.1 ∧ x.1 ≤ 1048576)
     ·rw [if_pos h3] at h1; cases h1
     ·exact ⟨h2, by omega, by omega⟩
    ·rw [if_pos h2] at h1; exact absurd h1 h2
   ·exact dckl_all h x hx
  ·rw [if_pos h1] at h; exact absurd h h1
theorem gd_of {l : List (Int × ByteArray)} (h : dck l = 0) (hl : ∀ x ∈ l, (ival x.2).natAbs < 10 ^ 60) : Gd l := by
 unfold dck at h
 by_cases h0 : l.length = 0
 ·rw [if_pos h0] at h; cases h
 ·rw [if_neg h0] at h
  by_cases h1 : l.length > 4096
  ·rw [if_pos h1] at h; cases h
  ·rw [if_neg h1] at h
   have ha := dckl_all h
   exact ⟨fun h2 => h0 (by rw [h2]; rfl), by omega, fun x hx => (ha x hx).1, fun x hx => (ha x hx).2.1, fun x hx => (ha x hx).2.2, hl⟩
theorem natAbs_sum (u v : Int) : (u + v).natAbs ≤ u.natAbs + v.natAbs := Int.natAbs_add_le u v
theorem sumf_le (f : Int × ByteArray → Int) (B : Nat) (l : List (Int × ByteArray)) (h : ∀ x ∈ l, (f x).natAbs ≤ B) : (sumf f l).natAbs ≤ l.length * B := by
 have key : ∀ (l : List (Int × ByteArray)) (s : Int), (∀ x ∈ l, (f x).natAbs ≤ B) → (l.foldl (fun s x => s + f x) s).natAbs ≤ s.natAbs + l.length * B := by
  intro l
  induction l with
  | nil => intro s _; simp
  | cons x t ih =>
   intro s h
   have h1 := ih (s + f x) (fun y hy => h y (List.mem_cons_of_mem _ hy))
   have h2 := natAbs_sum s (f x)
   have h3 := h x (List.mem_cons_self)
   rw [List.foldl_cons, List.length_cons, Nat.succ_mul]
   omega
 have := key l 0 h
 simpa [sumf] using this
theorem fits_exp {v : Int} {e : Nat} (h : v.natAbs < 10 ^ e) (he : e ≤ 1024) : fits v := Nat.lt_of_lt_of_le h (Nat.pow_le_pow_right (by decide) he)
theorem pow_le73 {u n : Int} (pw : Nat) (hp : pw ≤ 2) (hu : u.natAbs < 10 ^ 60) (hn : -1048576 ≤ n ∧ n ≤ 1048576) : (u * n ^ pw).natAbs ≤ 10 ^ 73 := by
 rw [Int.natAbs_mul, Int.natAbs_pow]
 have h1 : n.natAbs ≤ 1048576 := by omega
 have h2 : n.natAbs ^ pw ≤ 1048576 ^ pw := Nat.pow_le_pow_left h1 pw
 have h3 : 1048576 ^ pw ≤ 10 ^ 13 := by
  have : pw = 0 ∨ pw = 1 ∨ pw = 2 := by omega
  rcases this with rfl | rfl | rfl <;> decide
 rw [show (73 : Nat) = 60 + 13 from rfl, Nat.pow_add]
 exact Nat.mul_le_mul (Nat.le_of_lt hu) (Nat.le_trans h2 h3)
theorem Gd.fM {l : List (Int × ByteArray)} (h : Gd l) {pw : Nat} (hp : pw ≤ 2) : ∀ x ∈ l, (fM pw x).natAbs ≤ 10 ^ 73 := fun x hx => pow_le73 pw hp (h.lim x hx) (h.val x hx)
theorem Gd.fW {l : List (Int × ByteArray)} (h : Gd l) : ∀ x ∈ l, (fW x).natAbs ≤ 10 ^ 73 := fun x hx => by
 have := h.fM (pw := 0) (by decide) x hx
 unfold Go.Proofs.YtkdpcgmnkifbbaaGreatDoor.fM at this
 rwa [Int.pow_zero, Int.mul_one] at this
theorem Gd.fP {l : List (Int × ByteArray)} (h : Gd l) (lo hi : Int) : ∀ x ∈ l, (fP lo hi x).natAbs ≤ 10 ^ 73 := fun x hx => by
 unfold Go.Proofs.YtkdpcgmnkifbbaaGreatDoor.fP pick
 split
 ·exact Nat.zero_le _
 ·exact h.fW x hx
theorem le73 {u : Nat} (h : u ≤ 10 ^ 73) : u < 10 ^ 74 := Nat.lt_of_le_of_lt h (Nat.pow_lt_pow_right (by decide) (by decide))
theorem sum77 {l : List (Int × ByteArray)} (hl : l.length ≤ 4096) {f : Int × ByteArray → Int} (h : ∀ x ∈ l, (f x).natAbs ≤ 10 ^ 73) : (sumf f l).natAbs < 10 ^ 77 := by
 have h1 := sumf_le f _ l h
 have h2 : l.length * 10 ^ 73 < 10 ^ 4 * 10 ^ 73 := Nat.mul_lt_mul_of_pos_right (Nat.lt_of_le_of_lt hl (by decide)) (Nat.pow_pos (by decide))
 rw [← Nat.pow_add] at h2
 exact Nat.lt_of_le_of_lt h1 h2
theorem sum77t {l : List (Int × ByteArray)} (hl : l.length ≤ 4096) {f : Int × ByteArray → Int} (h : ∀ x ∈ l, (f x).natAbs ≤ 10 ^ 73) (i : Nat) : fits (sumf f (l.take i)) :=
 fits_exp (sum77 (Nat.le_trans (by rw [List.length_take]; exact Nat.min_le_right _ _) hl) (fun x hx => h x (List.mem_of_mem_take hx))) (by decide)
theorem one74 {v : Int} (h : v.natAbs ≤ 10 ^ 73) : fits v := fits_exp (le73 h) (by decide)
def totw (l : List (Int × ByteArray)) : Int := sumf fW l
theorem sumf_pos {l : List (Int × ByteArray)} (hne : l ≠ []) (h : ∀ x ∈ l, 0 < ival x.2) : 0 < totw l := by
 have key : ∀ (l : List (Int × ByteArray)) (s : Int), (∀ x ∈ l, 0 < ival x.2) → s + l.length ≤ l.foldl (fun s x => s + fW x) s := by
  intro l
  induction l with
  | nil => intro s _; simp
  | cons x t ih =>
   intro s h
   have h1 := ih (s + fW x) (fun y hy => h y (List.mem_cons_of_mem _ hy))
   have h3 := h x (List.mem_cons_self)
   rw [List.foldl_cons, List.length_cons]
   unfold fW at h1 ⊢
   omega
 have := key l 0 h
 have hp := List.length_pos_iff.2 hne
 unfold totw sumf
 omega
set_option maxRecDepth 100000 in
set_option maxHeartbeats 4000000 in
theorem share_P (c : Nat) (lo hi : Int) (A0 : Option Addr) (c0 : Nat) (l : List (Int × ByteArray)) (w : World) (hr0 : Kd.C KP w A0 l.length l) (hc0 : l.length ≤ c0) (hgd : Gd l) (k0 : w.cell? ⟨c, 0, none⟩ = some (.int .i64 lo)) (k1 : w.cell? ⟨c, 1, none⟩ = some (.int .i64 hi)) (ht : Tabs w) :
  Calls Tryz.prog 33 #[.slice A0 l.length c0, .func (.func 34) #[] #[.pointer (some ⟨c, 0, none⟩)]] w (TwoPost w (rtx (Rat.divInt (sumf (fP lo hi) l) (totw l)), 0)) := by
 have HR0 := Lib.hid hr0; clear hr0
 have HC0 := Lib.hid hc0; clear hc0
 have HGD := Lib.hid hgd; clear hgd
 have HT := Lib.hid ht; clear ht
 have K0 := Lib.hid k0; clear k0
 have K1 := Lib.hid k1; clear k1
 have hfu : fits (sumf (fP lo hi) l) := fits_exp (sum77 HGD.out.len (HGD.out.fP lo hi)) (by decide)
 have hfv : fits (totw l) := fits_exp (sum77 HGD.out.len HGD.out.fW) (by decide)
 have hz : totw l ≠ 0 := by have := sumf_pos HGD.out.ne HGD.out.pos; omega
 have hmk : makeF (itx (sumf (fP lo hi) l)) (itx (totw l)) = (rtx (Rat.divInt (sumf (fP lo hi) l) (totw l)), 0) := by
  unfold makeF
  rw [two_go (chk_fits hfu) (chk_fits hfv), ival_itx, ival_itx, if_neg hz]
 have HMK := Lib.hid hmk; clear hmk
 have HZ1 := Lib.hid (Nat.le_trans (chk_size (chk_fits hfu)) (show 1025 ≤ 9223372036854775807 by decide))
 have HZ2 := Lib.hid (Nat.le_trans (chk_size (chk_fits hfv)) (show 1025 ≤ 9223372036854775807 by decide))
 have S1 := Lib.hid (sum_P c lo hi A0 c0 l w HR0.out HC0.out HGD.out.ck HGD.out.len (fun i _ => sum77t HGD.out.len (HGD.out.fP lo hi) i) (fun x hx => one74 (HGD.out.fP lo hi x hx)) K0.out K1.out HT.out)
 have S2 := Lib.hid fun (W : World) (hb : Below w.heap.size w W) => sum_W A0 c0 l W (Kd.C_below HR0.out hb) HC0.out HGD.out.ck HGD.out.len (fun i _ => sum77t HGD.out.len HGD.out.fW i) (fun x hx => one74 (HGD.out.fW x hx)) (HT.out.below hb)
 clear hfu hfv hz
 obtain ⟨su, hsu⟩ : ∃ su, su = sumf (fP lo hi) l := ⟨_, rfl⟩
 rw [← hsu] at S1 HMK HZ1 ⊢
 clear hsu
 go_enter Tryz.func33, Tryz.ntmps33
 go_wp2_with fail
 refine S1.out.mono ?_
 rintro e w1 ⟨rfl, hb1⟩
 have HB1 := Lib.hid hb1; clear hb1
 go_wp2_with fail
 refine (S2.out w1 HB1.out).mono ?_
 rintro e w2 ⟨rfl, hb2⟩
 have HB2 := Lib.hid (below_then HB1.out HB1.out.size hb2); clear hb2
 go_wp2_with fail
 have hm := make_calls (itx su) (itx (totw l)) HZ1.out HZ2.out w2 (HT.out.below HB2.out)
 rw [HMK.out] at hm
 refine hm.mono ?_
 rintro e w3 ⟨rfl, hb3⟩
 have HB3 := Lib.hid (below_then HB2.out HB2.out.size hb3); clear hb3 hm
 go_wp2
 go_ret2
 exact ⟨rfl, HB3.out⟩
set_option maxRecDepth 100000 in
set_option maxHeartbeats 4000000 in
theorem share_M (c pw : Nat) (A0 : Option Addr) (c0 : Nat) (l : List (Int × ByteArray)) (w : World) (hr0 : Kd.C KP w A0 l.length l) (hc0 : l.length ≤ c0) (hgd : Gd l) (k0 : w.cell? ⟨c, 0, none⟩ = some (.int .i64 pw)) (hpw : pw ≤ 2) (ht : Tabs w) :
  Calls Tryz.prog 33 #[.slice A0 l.length c0, .func (.func 77) #[] #[.pointer (some ⟨c, 0, none⟩)]] w (TwoPost w (rtx (Rat.divInt (sumf (fM pw) l) (totw l)), 0)) := by
 have HR0 := Lib.hid hr0; clear hr0
 have HC0 := Lib.hid hc0; clear hc0
 have HGD := Lib.hid hgd; clear hgd
 have HT := Lib.hid ht; clear ht
 have K0 := Lib.hid k0; clear k0
 have HPW := Lib.hid hpw; clear hpw
 have hfu : fits (sumf (fM pw) l) := fits_exp (sum77 HGD.out.len (HGD.out.fM HPW.out)) (by decide)
 have hfv : fits (totw l) := fits_exp (sum77 HGD.out.len HGD.out.fW) (by decide)
 have hz : totw l ≠ 0 := by have := sumf_pos HGD.out.ne HGD.out.pos; omega
 have hmk : makeF (itx (sumf (fM pw) l)) (itx (totw l)) = (rtx (Rat.divInt (sumf (fM pw) l) (totw l)), 0) := by
  unfold makeF
  rw [two_go (chk_fits hfu) (chk_fits hfv), ival_itx, ival_itx, if_neg hz]
 have HMK := Lib.hid hmk; clear hmk
 have HZ1 := Lib.hid (Nat.le_trans (chk_size (chk_fits hfu)) (show 1025 ≤ 9223372036854775807 by decide))
 have HZ2 := Lib.hid (Nat.le_trans (chk_size (chk_fits hfv)) (show 1025 ≤ 9223372036854775807 by decide))
 have S1 := Lib.hid (sum_M c pw A0 c0 l w HR0.out HC0.out HGD.out.ck HGD.out.len (fun i _ => sum77t HGD.out.len (HGD.out.fM HPW.out) i) (fun x hx => one74 (HGD.out.fM HPW.out x hx)) K0.out (Nat.le_trans HPW.out (by decide)) (fun x hx => by have := HGD.out.val x hx; omega) (fun x hx i hi => one74 (pow_le73 i (Nat.le_trans hi HPW.out) (HGD.out.lim x hx) (HGD.out.val x hx))) HT.out)
 have S2 := Lib.hid fun (W : World) (hb : Below w.heap.size w W) => sum_W A0 c0 l W (Kd.C_below HR0.out hb) HC0.out HGD.out.ck HGD.out.len (fun i _ => sum77t HGD.out.len HGD.out.fW i) (fun x hx => one74 (HGD.out.fW x hx)) (HT.out.below hb)
 clear hfu hfv hz
 obtain ⟨su, hsu⟩ : ∃ su, su = sumf (fM pw) l := ⟨_, rfl⟩
 rw [← hsu] at S1 HMK HZ1 ⊢
 clear hsu
 go_enter Tryz.func33, Tryz.ntmps33
 go_wp2_with fail
 refine S1.out.mono ?_
 rintro e w1 ⟨rfl, hb1⟩
 have HB1 := Lib.hid hb1; clear hb1
 go_wp2_with fail
 refine (S2.out w1 HB1.out).mono ?_
 rintro e w2 ⟨rfl, hb2⟩
 have HB2 := Lib.hid (below_then HB1.out HB1.out.size hb2); clear hb2
 go_wp2_with fail
 have hm := make_calls (itx su) (itx (totw l)) HZ1.out HZ2.out w2 (HT.out.below HB2.out)
 rw [HMK.out] at hm
 refine hm.mono ?_
 rintro e w3 ⟨rfl, hb3⟩
 have HB3 := Lib.hid (below_then HB2.out HB2.out.size hb3); clear hb3 hm
 go_wp2
 go_ret2
 exact ⟨rfl, HB3.out⟩
set_option maxRecDepth 100000 in
set_option maxHeartbeats 4000000 in
theorem moment_calls (pw : Nat) (w : World) : Calls Tryz.prog 43 #[.int .i64 pw] w fun e w' => e = .returned (.func (.func 77) #[] #[.pointer (some ⟨w.heap.size, 0, none⟩)]) ∧ w'.cell? ⟨w.heap.size, 0, none⟩ = some (.int .i64 pw) ∧ Below w.heap.size w w' := by
 go_enter Tryz.func43, Tryz.ntmps43
 go_wp2
 go_ret
 refine ⟨rfl, ?_, (Below.refl _ _).alloc (Nat.le_refl _) _⟩
 rw [World.cell?, heap_alloc_new]
 rfl
def distR (l : List (Int × ByteArray)) (r : ByteArray × Int) : ByteArray × Int := if dck l = 0 then r else (⟨#[]⟩, dck l)
def totR (l : List (Int × ByteArray)) : ByteArray × Int := distR l (itx (totw l), 0)
def meanq (l : List (Int × ByteArray)) : Rat := Rat.divInt (sumf (fM 1) l) (totw l)
def meanR (l : List (Int × ByteArray)) : ByteArray × Int := distR l (rtx (meanq l), 0)
def probq (l : List (Int × ByteArray)) (lo hi : Int) : Rat := Rat.divInt (sumf (fP lo hi) l) (totw l)
def probR (l : List (Int × ByteArray)) (lo hi : Int) : ByteArray × Int := distR l (if lo > hi then (⟨#[]⟩, 9) else (rtx (probq l lo hi), 0))
def okD (l : List (Int × ByteArray)) : Prop := (∀ x ∈ l, x.2.size ≤ 9223372036854775807) ∧ (dck l = 0 → ∀ x ∈ l, (ival x.2).natAbs < 10 ^ 60)
instance (l : List (Int × ByteArray)) : Decidable (okD l) := inferInstanceAs (Decidable (_ ∧ _))
set_option maxRecDepth 100000 in
set_option maxHeartbeats 4000000 in
theorem total_calls (A0 : Option Addr) (c0 : Nat) (l : List (Int × ByteArray)) (w : World) (hr0 : Kd.C KP w A0 l.length l) (hc0 : l.length ≤ c0) (hok : okD l) (ht : Tabs w) :
  Calls Tryz.prog 14 #[.slice A0 l.length c0] w (TwoPost w (totR l)) := by
 have HR0 := Lib.hid hr0; clear hr0
 have HC0 := Lib.hid hc0; clear hc0
 have HT := Lib.hid ht; clear ht
 have CK := Lib.hid (dcheck_calls A0 c0 l w HR0.out HC0.out hok.1)
 by_cases h0 : dck l = 0
 ·have HGD := Lib.hid (gd_of h0 (hok.2 h0)); clear hok
  rw [h0] at CK
  have e0 : totR l = (itx (totw l), 0) := if_pos h0
  rw [e0]
  clear h0 e0
  go_enter Tryz.func14, Tryz.ntmps14
  go_wp2_with fail
  refine CK.out.mono ?_
  rintro e w1 ⟨rfl, hb1⟩
  have HB1 := Lib.hid hb1; clear hb1
  go_wp2_with fail
  refine (sum_W A0 c0 l w1 (Kd.C_below HR0.out HB1.out) HC0.out HGD.out.ck HGD.out.len (fun i _ => sum77t HGD.out.len HGD.out.fW i) (fun x hx => one74 (HGD.out.fW x hx)) (HT.out.below HB1.out)).mono ?_
  rintro e w2 ⟨rfl, hb2⟩
  have HB2 := Lib.hid (below_then HB1.out HB1.out.size hb2); clear hb2
  go_wp2
  go_ret2
  exact ⟨rfl, HB2.out⟩
 ·have e0 : totR l = (⟨#[]⟩, dck l) := if_neg h0
  rw [e0]
  have hne : (dck l == 0) = false := beq_eq_false_iff_ne.2 h0
  clear hok h0 e0
  generalize dck l = d at CK hne ⊢
  go_enter Tryz.func14, Tryz.ntmps14
  go_wp2_with fail
  refine CK.out.mono ?_
  rintro e w1 ⟨rfl, hb1⟩
  have HB1 := Lib.hid hb1; clear hb1
  go_wp2
  go_ret2
  exact ⟨rfl, HB1.out⟩
set_option maxRecDepth 100000 in
set_option maxHeartbeats 4000000 in
theorem mean_calls (A0 : Option Addr) (c0 : Nat) (l : List (Int × ByteArray)) (w : World) (hr0 : Kd.C KP w A0 l.length l) (hc0 : l.length ≤ c0) (hok : okD l) (ht : Tabs w) :
  Calls Tryz.prog 16 #[.slice A0 l.length c0] w (TwoPost w (meanR l)) := by
 have HR0 := Lib.hid hr0; clear hr0
 have HC0 := Lib.hid hc0; clear hc0
 have HT := Lib.hid ht; clear ht
 have CK := Lib.hid (dcheck_calls A0 c0 l w HR0.out HC0.out hok.1)
 by_cases h0 : dck l = 0
 ·have HGD := Lib.hid (gd_of h0 (hok.2 h0)); clear hok
  rw [h0] at CK
  have e0 : meanR l = (rtx (meanq l), 0) := if_pos h0
  rw [e0]
  clear h0 e0
  go_enter Tryz.func16, Tryz.ntmps16
  go_wp2_with fail
  refine CK.out.mono ?_
  rintro e w1 ⟨rfl, hb1⟩
  have HB1 := Lib.hid hb1; clear hb1
  go_wp2_with fail
  refine (moment_calls 1 w1).mono ?_
  rintro e w2 ⟨rfl, k0, hb2⟩
  have HB2 := Lib.hid (below_then HB1.out HB1.out.size hb2); clear hb2
  have K0 := Lib.hid k0; clear k0
  go_wp2_with fail
  refine (share_M w1.heap.size 1 A0 c0 l w2 (Kd.C_below HR0.out HB2.out) HC0.out HGD.out K0.out (by decide) (HT.out.below HB2.out)).mono ?_
  rintro e w3 ⟨rfl, hb3⟩
  have HB3 := Lib.hid (below_then HB2.out HB2.out.size hb3); clear hb3
  go_wp2
  go_ret2
  exact ⟨rfl, HB3.out⟩
 ·have e0 : meanR l = (⟨#[]⟩, dck l) := if_neg h0
  rw [e0]
  have hne : (dck l == 0) = false := beq_eq_false_iff_ne.2 h0
  clear hok h0 e0
  generalize dck l = d at CK hne ⊢
  go_enter Tryz.func16, Tryz.ntmps16
  go_wp2_with fail
  refine CK.out.mono ?_
  rintro e w1 ⟨rfl, hb1⟩
  have HB1 := Lib.hid hb1; clear hb1
  go_wp2
  go_ret2
  exact ⟨rfl, HB1.out⟩
set_option maxRecDepth 100000 in
set_option maxHeartbeats 4000000 in
theorem prob_calls (lo hi : Int) (A0 : Option Addr) (c0 : Nat) (l : List (Int × ByteArray)) (w : World) (hr0 : Kd.C KP w A0 l.length l) (hc0 : l.length ≤ c0) (hok : okD l) (ht : Tabs w) :
  Calls Tryz.prog 10 #[.slice A0 l.length c0, .agg #[.int .i64 lo, .int .i64 hi]] w (TwoPost w (probR l lo hi)) := by
 have HR0 := Lib.hid hr0; clear hr0
 have HC0 := Lib.hid hc0; clear hc0
 have HT := Lib.hid ht; clear ht
 have hb0 : Below w.heap.size w (w.alloc (.cells #[.int .i64 lo, .int .i64 hi] 24)) := (Below.refl w.heap.size w).alloc (Nat.le_refl _) _
 have c0' := lit0 w (.int .i64 lo) (.int .i64 hi) 24
 have c1' := lit1 w (.int .i64 lo) (.int .i64 hi) 24
 have CK := Lib.hid fun (W : World) (hb : Below w.heap.size w W) => dcheck_calls A0 c0 l W (Kd.C_below HR0.out hb) HC0.out hok.1
 have HB0 := Lib.hid hb0; clear hb0
 have K0 := Lib.hid c0'; clear c0'
 have K1 := Lib.hid c1'; clear c1'
 by_cases h0 : dck l = 0
 ·have HGD := Lib.hid (gd_of h0 (hok.2 h0)); clear hok
  rw [h0] at CK
  by_cases hlh : lo > hi
  ·have e0 : probR l lo hi = (⟨#[]⟩, 9) := by unfold probR distR; rw [if_pos h0, if_pos hlh]
   rw [e0]
   have hl1 : (hi < lo) = True := eq_true hlh
   clear h0 e0 hlh
   go_enter Tryz.func10, Tryz.ntmps10
   go_wp2_with fail
   generalize w.alloc (.cells #[.int .i64 lo, .int .i64 hi] 24) = w0 at HB0 K0 K1 ⊢
   refine (CK.out w0 HB0.out).mono ?_
   rintro e w1 ⟨rfl, hb1⟩
   have HB1 := Lib.hid (below_then HB0.out HB0.out.size hb1)
   have k0 := (hb1.cell (World.block_lt_of_cell? _ _ K0.out)).trans K0.out
   have k1 := (hb1.cell (World.block_lt_of_cell? _ _ K1.out)).trans K1.out
   clear hb1
   go_wp2
   go_ret2
   exact ⟨rfl, HB1.out⟩
  ·have e0 : probR l lo hi = (rtx (probq l lo hi), 0) := by unfold probR distR; rw [if_pos h0, if_neg hlh]
   rw [e0]
   have hl1 : (hi < lo) = False := eq_false hlh
   clear h0 e0 hlh
   go_enter Tryz.func10, Tryz.ntmps10
   go_wp2_with fail
   generalize w.alloc (.cells #[.int .i64 lo, .int .i64 hi] 24) = w0 at HB0 K0 K1 ⊢
   refine (CK.out w0 HB0.out).mono ?_
   rintro e w1 ⟨rfl, hb1⟩
   have HB1 := Lib.hid (below_then HB0.out HB0.out.size hb1)
   have k0 := (hb1.cell (World.block_lt_of_cell? _ _ K0.out)).trans K0.out
   have k1 := (hb1.cell (World.block_lt_of_cell? _ _ K1.out)).trans K1.out
   have J0 := Lib.hid k0
   have J1 := Lib.hid k1
   clear hb1
   go_wp2_with fail
   refine (share_P w.heap.size lo hi A0 c0 l w1 (Kd.C_below HR0.out HB1.out) HC0.out HGD.out J0.out J1.out (HT.out.below HB1.out)).mono ?_
   rintro e w3 ⟨rfl, hb3⟩
   have HB3 := Lib.hid (below_then HB1.out HB1.out.size hb3); clear hb3
   go_wp2
   go_ret2
   exact ⟨rfl, HB3.out⟩
 ·have e0 : probR l lo hi = (⟨#[]⟩, dck l) := if_neg h0
  rw [e0]
  have hne : (dck l == 0) = false := beq_eq_false_iff_ne.2 h0
  clear hok h0 e0
  generalize dck l = d at CK hne ⊢
  go_enter Tryz.func10, Tryz.ntmps10
  go_wp2_with fail
  generalize w.alloc (.cells #[.int .i64 lo, .int .i64 hi] 24) = w0 at HB0 K0 K1 ⊢
  refine (CK.out w0 HB0.out).mono ?_
  rintro e w1 ⟨rfl, hb1⟩
  have HB1 := Lib.hid (below_then HB0.out HB0.out.size hb1); clear hb1
  go_wp2
  go_ret2
  exact ⟨rfl, HB1.out⟩
end Go.Proofs.YtkdpcgmnkifbbaaGreatDoor
end
section
namespace Go.Proofs.YtkdpcgmnkifbbaaGreatDoor
open Go.RowKit Go.Proofs.YtkdpcgmnkifbbaaGreatDoorW.PrintWords Go.Proofs.YtkdpcgmnkifbbaaGreatDoorW.PrintMore
def Runs {α : Type} (g : Nat → Option α) (r : α) : Prop := ∃ K, ∀ k, K ≤ k → g k = some r
theorem Runs.of {α : Type} {g : Nat → Option α} {r : α} (hm : ∀ k, LeO (g k) (g (k + 1))) {k : Nat} (h : g k = some r) : Runs g r := by
 refine ⟨k, fun j hj => ?_⟩
 obtain ⟨d, rfl⟩ : ∃ d, j = k + d := ⟨j - k, by omega⟩
 clear hj
 induction d with
 | zero => exact h
 | succ d ih => exact hm _ _ ih
theorem Runs.pure {α : Type} (r : α) : Runs (fun _ => some r) r := ⟨0, fun _ _ => rfl⟩
theorem Runs.bind {α β : Type} {g : Nat → Option α} {f : Nat → α → Option β} {x : α} {r : β} (h1 : Runs g x) (h2 : Runs (fun k => f k x) r) : Runs (fun k => (g k).bind (f k)) r := by
 obtain ⟨K, hK⟩ := h1
 obtain ⟨M, hM⟩ := h2
 exact ⟨max K M, fun k hk => by
  have e := hK k (Nat.le_trans (Nat.le_max_left _ _) hk)
  show (g k).bind (f k) = some r
  rw [e]; exact hM k (Nat.le_trans (Nat.le_max_right _ _) hk)⟩
theorem Runs.congr {α : Type} {g f : Nat → Option α} {r : α} (h : Runs f r) (he : ∀ k, g k = f k) : Runs g r := by
 obtain ⟨K, hK⟩ := h
 exact ⟨K, fun k hk => (he k).trans (hK k hk)⟩
theorem Runs.succ {α : Type} {g f : Nat → Option α} {r : α} (h : Runs f r) (he : ∀ k, g (k + 1) = f k) : Runs g r := by
 obtain ⟨K, hK⟩ := h
 exact ⟨K + 1, fun k hk => by
  obtain ⟨j, rfl⟩ : ∃ j, k = j + 1 := ⟨k - 1, by omega⟩
  rw [he]; exact hK j (by omega)⟩
theorem Runs.get {α : Type} {g : Nat → Option α} {r : α} (h : Runs g r) : ∃ k, g k = some r := ⟨h.choose, h.choose_spec _ (Nat.le_refl _)⟩
def dtx (m : Nat) : ByteArray := bas (Lib.decDigits m)
theorem dtx_list (m : Nat) : (dtx m).data.toList = Lib.decDigits m := rfl
theorem dtx_size (m : Nat) : (dtx m).size = (Lib.decDigits m).length := bas_size _
theorem dtx_pos (m : Nat) : 0 < (dtx m).size := by rw [dtx_size]; exact List.length_pos_iff.2 (dd_ne_nil m)
theorem itx_pos (u : Int) : 0 < (itx u).size := by
 rw [Lib.size_eq, itx_list]; unfold Lib.itoa
 split
 ·simp
 ·exact List.length_pos_iff.2 (dd_ne_nil _)
theorem dtx_eq (m : Nat) : dtx m = itx (m : Int) := by
 unfold dtx bas itx; rw [itoa_nat]
theorem size_f (a : ByteArray) : R.metrolabref01_size.f a = some (bas (digs a.data.toList)) := by
 unfold R.metrolabref01_size.f
 by_cases h0 : a.toList = []
 ·rw [if_pos h0]
  rw [Lib.toList_data] at h0
  rw [h0, ← Lib.mk_data a, h0]; rfl
 ·have hp : 0 < a.size := by
   rw [Lib.toList_data] at h0
   rw [Lib.size_eq]; exact List.length_pos_iff.2 h0
  rw [if_neg h0, if_pos (by omega)]
  have hb : bt a 0 = 45 ↔ a.data.toList.head? = some 45 := bt_head a hp 45
  unfold digs
  by_cases h : a.data.toList.head? = some 45
  ·rw [if_pos (hb.2 h), if_pos (by omega), if_pos h, Lib.extract_eq, ← List.drop_one]
   rw [List.take_of_length_le (by rw [List.length_drop, Lib.size_eq]; exact Nat.le_refl _)]; rfl
  ·rw [if_neg (fun h2 => h (hb.1 h2)), if_neg h]
   exact congrArg some (Lib.mk_data a).symm
theorem size_itx (u : Int) : R.metrolabref01_size.f (itx u) = some (dtx u.natAbs) := by
 rw [size_f, itx_digs]; rfl
theorem below_f (a : ByteArray) (h : form a.data.toList = true) (hp : 0 < a.size) : R.metrolabref01_Below.f a = some (decide (ival a < 0)) := by
 unfold R.metrolabref01_Below.f
 rw [if_pos (by omega)]
 congr 1
 rw [Bool.eq_iff_iff, beq_iff_eq, decide_eq_true_iff, ← form_head a h]
 exact bt_head a hp 45
theorem below_itx (u : Int) : R.metrolabref01_Below.f (itx u) = some (decide (u < 0)) := by
 rw [below_f _ (form_itx u) (itx_pos u), ival_itx]
theorem dd_zero_iff (m : Nat) : Lib.decDigits m = [48] ↔ m = 0 := by
 constructor
 ·intro h
  have := dnat_dd m
  rw [h] at this
  exact this.symm
 ·rintro rfl; exact dd_zero
theorem signed_f (m : Nat) (s : Bool) (hs : (dtx m).size ≤ 9000000000000000000) : R.metrolabref01_signed.f (dtx m) s = some (itx (sg s m)) := by
 unfold R.metrolabref01_signed.f
 cases s
 ·rw [if_neg (by decide), dtx_eq]; rfl
 ·rw [if_pos rfl]
  by_cases h : m = 0
  ·subst h
   rw [if_pos (by rw [Lib.toList_data, dtx_list, dd_zero]), dtx_eq]; rfl
  ·rw [if_neg (by rw [Lib.toList_data, dtx_list, dd_zero_iff]; exact h), if_pos (by omega)]
   congr 1
   unfold itx Lib.itoa sg
   rw [if_pos rfl, if_pos (by omega), show (-(m : Int)).natAbs = m by omega]
   rfl
theorem turned_f (u : Int) (hs : (dtx u.natAbs).size ≤ 9000000000000000000) : R.metrolabref01_Turned.f (itx u) = some (itx (-u)) := by
 unfold R.metrolabref01_Turned.f
 rw [size_itx, below_itx, Option.bind_some, Option.bind_some, signed_f _ _ hs, Option.bind_some]
 congr 2
 unfold sg
 by_cases h : u < 0 <;> simp [h] <;> omega
theorem str_one (n : Nat) (h : n < 10) : strOfNums [(wrap64 (48 + (n : Int))) % 256] = dtx n := by
 rw [IntWalk.wrap64_in _ (by omega)]
 unfold strOfNums dtx bas
 rw [dd_small h, List.map_cons, List.map_nil, show ((48 + (n : Int)) % 256).toNat = 48 + n by omega]
theorem dtx_app (n : Nat) (h : ¬ n < 10) (x : ByteArray) : dtx (n / 10) ++ (dtx (n % 10) ++ x) = dtx n ++ x := by
 rw [← ByteArray.append_assoc]
 congr 1
 apply ByteArray.ext
 apply Array.toList_inj.1
 rw [ByteArray.data_append, Array.toList_append, dtx_list, dtx_list, dtx_list, dd_big h, dd_small (Nat.mod_lt n (by decide))]
theorem of_l0 (n : Nat) (x : ByteArray) (hn : n < 9223372036854775808) (hx : x.size + (dtx n).size ≤ 1000000) : Runs (fun k => R.metrolabref01_Of.l0 k n x) (dtx n ++ x) := by
 induction n using Nat.strongRecOn generalizing x with
 | _ n ih =>
  by_cases h : n < 10
  ·refine Runs.succ (Runs.pure _) fun k => ?_
   rw [R.metrolabref01_Of.l0, if_neg (by omega), Option.bind_some, str_one n h, if_pos (by omega)]
  ·have hz : (dtx n).size = (dtx (n / 10)).size + 1 := by
    rw [dtx_size, dtx_size, dd_big h]; simp
   have hz2 : (dtx (n % 10)).size = 1 := by rw [dtx_size, dd_small (Nat.mod_lt n (by decide))]; rfl
   have hr := ih (n / 10) (by omega) (dtx (n % 10) ++ x) (by omega) (by rw [ByteArray.size_append]; omega)
   rw [dtx_app n h x] at hr
   refine Runs.succ hr fun k => ?_
   have e1 : Int.tmod (n : Int) 10 = ((n % 10 : Nat) : Int) := rfl
   have e2 : Int.tdiv (n : Int) 10 = ((n / 10 : Nat) : Int) := rfl
   rw [R.metrolabref01_Of.l0, if_pos (by omega), Option.bind_some, e1, e2, str_one _ (Nat.mod_lt n (by decide)), if_pos (by omega), IntWalk.wrap64_in _ (by omega)]
theorem dtx_len (m k : Nat) (h : m < 10 ^ (k + 1)) : (dtx m).size ≤ k + 1 := by rw [dtx_size]; exact (dd_le_iff m k).2 h
theorem of_nat (n : Nat) (hn : n < 9223372036854775808) : Runs (fun k => R.metrolabref01_Of.f k n) (itx n) := by
 have h := of_l0 n ⟨#[]⟩ hn (by have := dtx_len n 18 (by omega); show 0 + _ ≤ _; omega)
 have e : dtx n ++ (⟨#[]⟩ : ByteArray) = itx n := by
  rw [← dtx_eq]
  apply ByteArray.ext
  apply Array.toList_inj.1
  rw [ByteArray.data_append, Array.toList_append]; simp
 rw [e] at h
 by_cases h0 : n = 0
 ·subst h0
  refine Runs.succ (Runs.succ h (g := fun k => R.metrolabref01_Of.j0 k 0 false) fun k => ?_) fun k => ?_
  ·rw [R.metrolabref01_Of.j0, if_neg (by decide), if_neg (by decide)]; rfl
  ·rw [R.metrolabref01_Of.f, if_pos (by rw [IntWalk.wrap64_in _ (by decide)]; rfl)]; rfl
 ·refine Runs.succ (Runs.succ h (g := fun k => R.metrolabref01_Of.j0 k n false) fun k => ?_) fun k => ?_
  ·rw [R.metrolabref01_Of.j0, if_neg (by decide), if_neg (by omega)]
  ·rw [R.metrolabref01_Of.f, if_neg (by rw [IntWalk.wrap64_in _ (by omega)]; omega)]
theorem ref_of (v : Int) (h0 : -9223372036854775808 < v) (h1 : v < 9223372036854775808) : Runs (fun k => R.metrolabref01_Of.f k v) (itx v) := by
 by_cases h : v < 0
 ·have hn := of_nat v.natAbs (by omega)
  rw [show ((v.natAbs : Nat) : Int) = -v by omega] at hn
  have ht := turned_f (-v) (by have := dtx_len (-v).natAbs 18 (by omega); omega)
  rw [Int.neg_neg] at ht
  have hb : Runs (fun k => (R.metrolabref01_Of.f k (-v)).bind fun t105 => ((R.metrolabref01_Turned.f t105).bind fun t106 => (some t106))) (itx v) := by
   refine Runs.bind hn ?_
   rw [ht]; exact Runs.pure _
  refine Runs.succ (Runs.succ hb (g := fun k => R.metrolabref01_Of.j0 k v false) fun k => ?_) fun k => ?_
  ·rw [R.metrolabref01_Of.j0, if_neg (by decide), if_pos h, IntWalk.wrap64_in _ (by omega)]
  ·rw [R.metrolabref01_Of.f, if_neg (by rw [IntWalk.wrap64_in _ (by omega)]; omega)]
 ·obtain ⟨n, rfl⟩ : ∃ n : Nat, v = n := ⟨v.toNat, by omega⟩
  exact of_nat n (by omega)
theorem dnat_take_succ (D : List UInt8) (i : Nat) (h : i < D.length) : dnat (D.take (i + 1)) = 10 * dnat (D.take i) + ((D.getD i 0).toNat - 48) := by
 rw [← List.take_append_getElem h, dnat_append]
 simp [List.getD, List.getElem?_eq_getElem h]
theorem number_l0 (u : Int) (m : Nat) (hm : (dtx m).size ≤ 18) (i : Nat) (hi : i ≤ (dtx m).size) : Runs (fun k => R.metrolabref01_number.l0 k (itx u) (dnat ((Lib.decDigits m).take i)) (dtx m) i) (if u < 0 then -(m : Int) else m) := by
 obtain ⟨d, hd⟩ : ∃ d, d = (dtx m).size - i := ⟨_, rfl⟩
 have hm18 : m < 10 ^ 18 := by
  rw [dtx_size] at hm; exact (dd_le_iff m 17).1 hm
 induction d generalizing i with
 | zero =>
  have hi2 : i = (dtx m).size := by omega
  refine Runs.succ (Runs.pure _) fun k => ?_
  rw [R.metrolabref01_number.l0, if_neg (by omega), below_itx, Option.bind_some]
  rw [hi2, dtx_size, List.take_length, dnat_dd]
  by_cases h : u < 0
  ·rw [decide_eq_true h, if_pos rfl, if_pos h, IntWalk.wrap64_in _ (by omega)]
  ·rw [decide_eq_false h, if_neg (by decide), if_neg h]
 | succ d ih =>
  have hl : i < (Lib.decDigits m).length := by rw [← dtx_size]; omega
  refine Runs.succ (ih (i + 1) (by omega) (by omega)) fun k => ?_
  have hdig : isDig ((Lib.decDigits m).getD i 0) = true := by
   have := dd_all m
   rw [List.all_eq_true] at this
   rw [List.getD, List.getElem?_eq_getElem hl]
   exact this _ (List.getElem_mem hl)
  obtain ⟨c, hc, _, hv⟩ := isDig_val hdig
  have hlt := dnat_lt (all_take (dd_all m) (i + 1))
  have hle : 10 ^ ((Lib.decDigits m).take (i + 1)).length ≤ 10 ^ 18 := Nat.pow_le_pow_right (by decide) (by rw [List.length_take, ← dtx_size]; omega)
  rw [dnat_take_succ _ _ hl, hv] at hlt
  rw [R.metrolabref01_number.l0, if_pos (by omega), if_pos (by omega), bt_nat _ _ (by omega), dtx_list, dnat_take_succ _ _ hl, hv]
  have hcc : (((((Lib.decDigits m).getD i 0).toNat : Int) - 48) % 256) = (c : Int) := by
   unfold isDig at hdig
   simp only [Bool.and_eq_true, decide_eq_true_eq] at hdig
   omega
  rw [hcc, IntWalk.wrap64_in (10 * _) (by omega), IntWalk.wrap64_in (10 * _ + _) (by omega), IntWalk.wrap64_in ((i : Int) + 1) (by omega)]
  push_cast
  rfl
theorem number_f (u : Int) (hu : (dtx u.natAbs).size ≤ 18) : Runs (fun k => R.metrolabref01_number.f k (itx u)) u := by
 have h := number_l0 u u.natAbs hu 0 (by omega)
 have e : (if u < 0 then -(u.natAbs : Int) else u.natAbs) = u := by split <;> omega
 rw [e] at h
 refine Runs.congr h fun k => ?_
 unfold R.metrolabref01_number.f
 rw [size_itx, Option.bind_some]; rfl
theorem brief_f (u v : Int) : Runs (fun k => R.metrolabref01_brief.f k (itx u) (itx v)) (if (dtx u.natAbs).size ≤ 18 ∧ (dtx v.natAbs).size ≤ 18 then (u, v, true) else (0, 0, false)) := by
 by_cases h1 : (dtx u.natAbs).size ≤ 18
 ·by_cases h2 : (dtx v.natAbs).size ≤ 18
  ·rw [if_pos ⟨h1, h2⟩]
   have hb : Runs (fun k => (R.metrolabref01_number.f k (itx u)).bind fun t117 => ((R.metrolabref01_number.f k (itx v)).bind fun t118 => (some (t117, t118, true)))) (u, v, true) :=
    Runs.bind (number_f u h1) (Runs.bind (number_f v h2) (Runs.pure _))
   refine Runs.congr (Runs.succ hb (g := fun k => R.metrolabref01_brief.j0 k (itx u) (itx v) false) fun k => ?_) fun k => ?_
   ·rw [R.metrolabref01_brief.j0, if_neg (by decide)]
   ·unfold R.metrolabref01_brief.f
    rw [size_itx, size_itx, Option.bind_some, if_neg (by omega), Option.bind_some, decide_eq_false (by omega)]
  ·rw [if_neg (fun h => h2 h.2)]
   refine Runs.congr (Runs.succ (Runs.pure _) (g := fun k => R.metrolabref01_brief.j0 k (itx u) (itx v) true) fun k => ?_) fun k => ?_
   ·rw [R.metrolabref01_brief.j0, if_pos rfl]
   ·unfold R.metrolabref01_brief.f
    rw [size_itx, size_itx, Option.bind_some, if_neg (by omega), Option.bind_some, decide_eq_true (by omega)]
 ·rw [if_neg (fun h => h1 h.1)]
  refine Runs.congr (Runs.succ (Runs.pure _) (g := fun k => R.metrolabref01_brief.j0 k (itx u) (itx v) true) fun k => ?_) fun k => ?_
  ·rw [R.metrolabref01_brief.j0, if_pos rfl]
  ·unfold R.metrolabref01_brief.f
   rw [size_itx, Option.bind_some, if_pos (by omega)]
end Go.Proofs.YtkdpcgmnkifbbaaGreatDoor
end
section
namespace Go.Proofs.YtkdpcgmnkifbbaaGreatDoor
open Go.RowKit Go.Proofs.YtkdpcgmnkifbbaaGreatDoorW.PrintWords Go.Proofs.YtkdpcgmnkifbbaaGreatDoorW.PrintMore
theorem bare_f (D : List UInt8) (h : D.all isDig = true) (h0 : D ≠ []) : Runs (fun k => R.metrolabref01_bare.f k (bas D)) (dtx (dnat D)) := by
 show Runs (fun k => R.metrolabref01_bare.l0 k (bas D)) (dtx (dnat D))
 induction D with
 | nil => exact absurd rfl h0
 | cons c t ih =>
  have hs : (bas (c :: t)).size = t.length + 1 := by rw [bas_size]; rfl
  by_cases ht : t = []
  ·subst ht
   refine Runs.succ (Runs.pure _) fun k => ?_
   rw [R.metrolabref01_bare.l0, if_neg (by rw [hs]; simp)]
   have hg : goodD [c] = true := by unfold goodD; rw [h]; simp
   unfold dtx; rw [dd_dnat hg]
  ·have hl : 0 < t.length := List.length_pos_iff.2 ht
   rw [List.all_cons, Bool.and_eq_true] at h
   have hb : bt (bas (c :: t)) 0 = 48 ↔ (c :: t).head? = some 48 := bt_head _ (by omega) 48
   by_cases h48 : c = 48
   ·subst h48
    have ihh := ih h.2 ht
    have e : dnat (48 :: t) = dnat t := by rw [dnat_cons]; simp
    rw [e]
    refine Runs.succ ihh fun k => ?_
    rw [R.metrolabref01_bare.l0, if_pos (by omega), if_pos (by omega), if_pos (hb.2 rfl), if_pos (by omega)]
    congr 1
    rw [Lib.extract_eq, bas_list, List.drop_one, List.tail_cons, List.take_of_length_le (by omega)]; rfl
   ·refine Runs.succ (Runs.pure _) fun k => ?_
    rw [R.metrolabref01_bare.l0, if_pos (by omega), if_pos (by omega), if_neg (fun h2 => h48 (by simpa using hb.1 h2))]
    have hg : goodD (c :: t) = true := by rw [goodD_cons, List.all_cons, h.1, h.2]; simp [h48]
    unfold dtx; rw [dd_dnat hg]
theorem column_f (a b c : Nat) (add : Bool) (ha : a < 10) (hb : b < 10) (hc : c ≤ 1) : ∃ d c' : Nat, d < 10 ∧ c' ≤ 1 ∧ Runs (fun k => R.metrolabref01_column.f k ((48 + a : Nat) : Int) ((48 + b : Nat) : Int) c add) (((48 + d : Nat) : Int), (c' : Int)) ∧ ((a : Int) + (if add then 1 else -1) * (b + c) = (if add then 1 else -1) * (10 * c') + d) := by
 have ea : ((((48 + a : Nat) : Int) - 48) % 256) = a := by omega
 have eb : ((((48 + b : Nat) : Int) - 48) % 256) = b := by omega
 cases add
 ·have hw : wrap64 ((a : Int) - b - c) = (a : Int) - b - c := IntWalk.wrap64_in _ (by omega)
  by_cases h : (a : Int) - b - c < 0
  ·refine ⟨10 + a - b - c, 1, by omega, by omega, ?_, by simp; omega⟩
   refine Runs.congr (Runs.succ (Runs.pure _) (g := fun k => R.metrolabref01_column.j0 k ((a : Int) - b - c)) fun k => ?_) fun k => ?_
   ·rw [R.metrolabref01_column.j0, if_neg (by omega), if_pos h, IntWalk.wrap64_in (48 + _) (by omega), IntWalk.wrap64_in _ (by omega)]
    congr 2; omega
   ·unfold R.metrolabref01_column.f
    rw [if_neg (by decide), ea, eb, hw]
  ·refine ⟨a - b - c, 0, by omega, by omega, ?_, by simp; omega⟩
   refine Runs.congr (Runs.succ (Runs.pure _) (g := fun k => R.metrolabref01_column.j0 k ((a : Int) - b - c)) fun k => ?_) fun k => ?_
   ·rw [R.metrolabref01_column.j0, if_neg (by omega), if_neg h, IntWalk.wrap64_in (48 + _) (by omega)]
    congr 2; omega
   ·unfold R.metrolabref01_column.f
    rw [if_neg (by decide), ea, eb, hw]
 ·have hw : wrap64 ((a : Int) + b + c) = (a : Int) + b + c := IntWalk.wrap64_in _ (by omega)
  by_cases h : (a : Int) + b + c > 9
  ·refine ⟨a + b + c - 10, 1, by omega, by omega, ?_, by simp; omega⟩
   refine Runs.congr (Runs.succ (Runs.pure _) (g := fun k => R.metrolabref01_column.j0 k ((a : Int) + b + c)) fun k => ?_) fun k => ?_
   ·rw [R.metrolabref01_column.j0, if_pos h, IntWalk.wrap64_in (48 + _) (by omega), IntWalk.wrap64_in _ (by omega)]
    congr 2; omega
   ·unfold R.metrolabref01_column.f
    rw [if_pos rfl, ea, eb, hw]
  ·refine ⟨a + b + c, 0, by omega, by omega, ?_, by simp; omega⟩
   refine Runs.congr (Runs.succ (Runs.pure _) (g := fun k => R.metrolabref01_column.j0 k ((a : Int) + b + c)) fun k => ?_) fun k => ?_
   ·rw [R.metrolabref01_column.j0, if_neg h, if_neg (by omega), IntWalk.wrap64_in (48 + _) (by omega)]
    congr 2; omega
   ·unfold R.metrolabref01_column.f
    rw [if_pos rfl, ea, eb, hw]
def numsOf (l : List UInt8) : List Int := l.map fun c => (c.toNat : Int)
theorem str_nums (l : List UInt8) : strOfNums (numsOf l) = bas l := by
 unfold strOfNums numsOf bas
 congr 2
 rw [List.map_map]
 conv => rhs; rw [← List.map_id l]
 apply List.map_congr_left
 intro c _
 show UInt8.ofNat ((c.toNat : Int)).toNat = c
 rw [Int.toNat_natCast]; exact UInt8.toNat_inj.1 (by simp)
theorem bt_digit {D : List UInt8} (h : D.all isDig = true) {j : Nat} (hj : j < D.length) : ∃ a, a < 10 ∧ bt (bas D) j = ((48 + a : Nat) : Int) ∧ D.drop j = UInt8.ofNat (48 + a) :: D.drop (j + 1) := by
 have hd : isDig (D[j]) = true := by
  rw [List.all_eq_true] at h; exact h _ (List.getElem_mem hj)
 obtain ⟨a, ha, hc, _⟩ := isDig_val hd
 refine ⟨a, ha, ?_, by rw [List.drop_eq_getElem_cons hj, hc]⟩
 rw [bt_nat _ _ (by rw [bas_size]; exact hj), bas_list, List.getD, List.getElem?_eq_getElem hj, Option.getD_some, hc, dig_of a ha]
theorem dnat_digit (a : Nat) (ha : a < 10) (t : List UInt8) : dnat (UInt8.ofNat (48 + a) :: t) = a * 10 ^ t.length + dnat t := by
 rw [dnat_cons, dig_of a ha]; congr 2; omega
theorem paper_l0 (A B : List UInt8) (n V : Nat) (hA : A.length = n) (hB : B.length = n) (dA : A.all isDig = true) (dB : B.all isDig = true) (add : Bool) (hn : n ≤ 1000000) (h0 : 0 < n)
  (hV : (dnat A : Int) + (if add then 1 else -1) * dnat B = V) (hVn : V < 10 ^ n)
  (j : Nat) (hj : j ≤ n) (c : Nat) (hc : c ≤ 1) (pre : List Int) (O : List UInt8) (hp : pre.length = j) (hO : O.length = n - j) (dO : O.all isDig = true)
  (hinv : (dnat (A.drop j) : Int) + (if add then 1 else -1) * dnat (B.drop j) = (if add then 1 else -1) * (c * 10 ^ (n - j)) + dnat O) :
  Runs (fun k => R.metrolabref01_paper.l0 k (bas A) (bas B) add (pre ++ numsOf O) c ((j : Int) - 1)) (dtx V) := by
 induction j generalizing c pre O with
 | zero =>
  have hpre : pre = [] := List.eq_nil_of_length_eq_zero hp
  subst hpre
  have hlt := dnat_lt dO
  rw [hO, Nat.sub_zero] at hlt
  rw [Nat.sub_zero, List.drop_zero, List.drop_zero, hV] at hinv
  have hVO : dnat O = V := by
   have hpw : ((10 : Int) ^ n) = ((10 ^ n : Nat) : Int) := by push_cast; rfl
   rw [hpw] at hinv
   generalize 10 ^ n = p at *
   rcases Nat.eq_zero_or_pos c with h | h
   ·subst h; cases add <;> simp at hinv <;> omega
   ·have : c = 1 := by omega
    subst this
    cases add <;> simp at hinv <;> omega
  have hb := bare_f O dO (by intro h; rw [h] at hO; simp at hO; omega)
  rw [hVO] at hb
  have hb2 : Runs (fun k => (R.metrolabref01_bare.f k (strOfNums ([] ++ numsOf O))).bind fun t127 => (some t127)) (dtx V) := by
   rw [List.nil_append, str_nums]; exact Runs.bind hb (Runs.pure _)
  refine Runs.succ hb2 fun k => ?_
  rw [R.metrolabref01_paper.l0, if_neg (by omega)]
 | succ j ih =>
  obtain ⟨a, ha, ea, da⟩ := bt_digit dA (j := j) (by omega)
  obtain ⟨b, hb, eb, db⟩ := bt_digit dB (j := j) (by omega)
  obtain ⟨d, c', hd, hc', hcol, heq⟩ := column_f a b c add ha hb hc
  obtain ⟨pre', x, rfl⟩ : ∃ pre' x, pre = pre' ++ [x] := by
   refine ⟨pre.dropLast, pre.getLast (by intro h; rw [h] at hp; simp at hp), (List.dropLast_concat_getLast _).symm⟩
  have hp' : pre'.length = j := by simp at hp; exact hp
  have hlen : (A.drop (j + 1)).length = n - (j + 1) := by rw [List.length_drop, hA]
  have hlenB : (B.drop (j + 1)).length = n - (j + 1) := by rw [List.length_drop, hB]
  have hnj : n - j = (n - (j + 1)) + 1 := by omega
  have hnext := ih (by omega) c' hc' pre' (UInt8.ofNat (48 + d) :: O) hp' (by rw [List.length_cons, hO]; omega) (by rw [List.all_cons, isDig_of d hd, dO]; rfl) (by
   rw [da, db, dnat_digit a ha, dnat_digit b hb, dnat_digit d hd, hlen, hlenB, hO, hnj, Int.pow_succ]
   push_cast
   generalize (10 : Int) ^ (n - (j + 1)) = p at *
   cases add
   ·simp at hinv heq ⊢
    have : (a : Int) * p = (b + c - 10 * c' + d) * p := by congr 1; omega
    rw [Int.add_mul, Int.sub_mul, Int.add_mul] at this
    rw [Int.mul_comm p 10, ← Int.mul_assoc, Int.mul_comm (c' : Int) 10]
    omega
   ·simp at hinv heq ⊢
    have : ((a : Int) + (b + c)) * p = (10 * c' + d) * p := by congr 1
    rw [Int.add_mul, Int.add_mul, Int.add_mul] at this
    rw [Int.mul_comm p 10, ← Int.mul_assoc, Int.mul_comm (c' : Int) 10]
    omega)
  refine Runs.succ (f := fun k => (R.metrolabref01_column.f k (bt (bas A) j) (bt (bas B) j) c add).bind fun bt124 => R.metrolabref01_paper.l0 k (bas A) (bas B) add ((pre' ++ [x] ++ numsOf O).set j bt124.1) bt124.2 ((j : Int) - 1)) ?_ fun k => ?_
  ·rw [ea, eb]
   refine Runs.bind hcol ?_
   have e : (pre' ++ [x] ++ numsOf O).set j ((48 + d : Nat) : Int) = pre' ++ numsOf (UInt8.ofNat (48 + d) :: O) := by
    rw [List.append_assoc, List.set_append_right _ _ (by omega), hp', Nat.sub_self]
    simp [numsOf, dig_of d hd]
    omega
   show Runs (fun k => R.metrolabref01_paper.l0 k (bas A) (bas B) add ((pre' ++ [x] ++ numsOf O).set j ((48 + d : Nat) : Int)) (c' : Int) ((j : Int) - 1)) (dtx V)
   rw [e]; exact hnext
  ·have ej : ((j + 1 : Nat) : Int) - 1 = j := by omega
   have hol : ((pre' ++ [x] ++ numsOf O).length : Int) = n := by simp [numsOf, hp', hO]; omega
   rw [ej, R.metrolabref01_paper.l0, if_pos (by omega), if_pos (by omega), if_pos (by rw [bas_size]; omega), if_pos (by rw [bas_size]; omega), IntWalk.wrap64_in _ (by omega), Int.toNat_natCast]
   congr 1
   funext bt124
   rw [if_pos (by omega)]
theorem padk_dnat (k : Nat) (D : List UInt8) : dnat (List.replicate k 48 ++ D) = dnat D := by
 induction k with
 | zero => rfl
 | succ k ih => rw [List.replicate_succ, List.cons_append, dnat_cons, ih]; simp
theorem padk_all (k : Nat) {D : List UInt8} (h : D.all isDig = true) : (List.replicate k 48 ++ D).all isDig = true := by
 rw [List.all_append, h, Bool.and_true, List.all_eq_true]
 intro x hx
 rw [(List.mem_replicate.1 hx).2]; rfl
theorem wide_f (m n : Nat) (h : (dtx m).size ≤ n) (hn : n ≤ 1000000) : R.metrolabref01_wide.f (dtx m) n = some (bas (List.replicate (n - (dtx m).size) 48 ++ Lib.decDigits m)) := by
 unfold R.metrolabref01_wide.f
 rw [if_pos ⟨by omega, dtx_pos m⟩, if_pos (by omega)]; rfl
theorem mx_nat (a b : Nat) : mx (a : Int) (b : Int) = ((max a b : Nat) : Int) := by
 unfold mx; split <;> omega
theorem paper_f (x y V : Nat) (add : Bool) (hx : (dtx x).size ≤ 100000) (hy : (dtx y).size ≤ 100000) (hV : (x : Int) + (if add then 1 else -1) * y = V) :
  Runs (fun k => R.metrolabref01_paper.f k (dtx x) (dtx y) add) (dtx V) := by
 obtain ⟨n, hn⟩ : ∃ n, n = max (dtx x).size (dtx y).size + 1 := ⟨_, rfl⟩
 have hw : wrap64 ((mx ((dtx x).size : Int) ((dtx y).size : Int)) + 1) = (n : Int) := by
  rw [mx_nat, IntWalk.wrap64_in _ (by omega)]; omega
 have hxn : (Lib.decDigits x).length + 1 ≤ n := by rw [← dtx_size]; omega
 have hyn : (Lib.decDigits y).length + 1 ≤ n := by rw [← dtx_size]; omega
 have lx : x < 10 ^ (n - 1) := by
  have := (dd_le_iff x (n - 2)).1 (by have := List.length_pos_iff.2 (dd_ne_nil x); omega)
  have h0 := List.length_pos_iff.2 (dd_ne_nil x)
  rwa [show n - 2 + 1 = n - 1 by omega] at this
 have ly : y < 10 ^ (n - 1) := by
  have := (dd_le_iff y (n - 2)).1 (by have := List.length_pos_iff.2 (dd_ne_nil y); omega)
  have h0 := List.length_pos_iff.2 (dd_ne_nil y)
  rwa [show n - 2 + 1 = n - 1 by omega] at this
 have hp : 10 ^ n = 10 * 10 ^ (n - 1) := by
  rw [show n = n - 1 + 1 by omega, Nat.pow_succ, Nat.mul_comm]; simp
 have hl := paper_l0 (List.replicate (n - (dtx x).size) 48 ++ Lib.decDigits x) (List.replicate (n - (dtx y).size) 48 ++ Lib.decDigits y) n V
  (by rw [List.length_append, List.length_replicate, dtx_size]; omega) (by rw [List.length_append, List.length_replicate, dtx_size]; omega)
  (padk_all _ (dd_all x)) (padk_all _ (dd_all y)) add (by omega) (by omega)
  (by rw [padk_dnat, padk_dnat, dnat_dd, dnat_dd]; exact hV)
  (by rw [hp]; generalize 10 ^ (n - 1) = p at *; cases add <;> simp at hV <;> omega)
  n (Nat.le_refl _) 0 (by omega) (List.replicate n 0) [] (by simp) (by simp) rfl
  (by rw [List.drop_of_length_le (by rw [List.length_append, List.length_replicate, dtx_size]; omega), List.drop_of_length_le (by rw [List.length_append, List.length_replicate, dtx_size]; omega)]; simp [dnat])
 refine Runs.congr hl fun k => ?_
 unfold R.metrolabref01_paper.f
 rw [hw, wide_f x n (by omega) (by omega), wide_f y n (by omega) (by omega)]
 simp only [Option.bind_some, Int.toNat_natCast]
 rw [if_pos (by omega), if_pos (by omega), IntWalk.wrap64_in _ (by omega)]
 simp [numsOf]
end Go.Proofs.YtkdpcgmnkifbbaaGreatDoor
end
section
namespace Go.Proofs.YtkdpcgmnkifbbaaGreatDoor
open Go.RowKit Go.Proofs.YtkdpcgmnkifbbaaGreatDoorW.PrintWords Go.Proofs.YtkdpcgmnkifbbaaGreatDoorW.PrintMore
theorem bytesLess_digits : ∀ (l m : List UInt8), l.length = m.length → l.all isDig = true → m.all isDig = true → Op.bytesLess l m = decide (dnat l < dnat m)
 | [], [], _, _, _ => by simp [Op.bytesLess, dnat]
 | [], _ :: _, h, _, _ => by simp at h
 | _ :: _, [], h, _, _ => by simp at h
 | a :: l, b :: m, h, ha, hb => by
  rw [List.all_cons, Bool.and_eq_true] at ha hb
  have hl : l.length = m.length := by simpa using h
  have ih := bytesLess_digits l m hl ha.2 hb.2
  have h1 := dnat_lt ha.2
  have h2 := dnat_lt hb.2
  obtain ⟨x, hx, hxa, hx2⟩ := isDig_val ha.1
  obtain ⟨y, hy, hyb, hy2⟩ := isDig_val hb.1
  rw [dnat_cons, dnat_cons, hx2, hy2, ← hl, Op.bytesLess, ih]
  rw [← hl] at h2
  have e1 : a < b ↔ x < y := by
   rw [hxa, hyb, UInt8.lt_iff_toNat_lt, dig_of x hx, dig_of y hy]; omega
  have e2 : a = b ↔ x = y := by
   rw [hxa, hyb]
   constructor
   ·intro h; have := congrArg UInt8.toNat h; rw [dig_of x hx, dig_of y hy] at this; omega
   ·rintro rfl; rfl
  generalize 10 ^ l.length = p at *
  rw [Bool.eq_iff_iff]
  simp only [Bool.or_eq_true, Bool.and_eq_true, decide_eq_true_iff, beq_iff_eq, e1, e2]
  rcases Nat.lt_trichotomy x y with h3 | h3 | h3
  ·have h4 : (x + 1) * p ≤ y * p := Nat.mul_le_mul_right _ h3
   rw [Nat.add_mul, Nat.one_mul] at h4
   omega
  ·subst h3; omega
  ·have h4 : (y + 1) * p ≤ x * p := Nat.mul_le_mul_right _ h3
   rw [Nat.add_mul, Nat.one_mul] at h4
   omega
theorem less_f (x y : Nat) : R.metrolabref01_less.f (dtx x) (dtx y) = some (decide (x < y)) := by
 unfold R.metrolabref01_less.f
 rw [dtx_size, dtx_size]
 by_cases h : (Lib.decDigits x).length < (Lib.decDigits y).length
 ·rw [if_pos (by omega), decide_eq_true (dd_mono h)]
 ·rw [if_neg (by omega)]
  by_cases h2 : (Lib.decDigits x).length = (Lib.decDigits y).length
  ·rw [if_pos (by omega), Lib.toList_data, Lib.toList_data, dtx_list, dtx_list, bytesLess_digits _ _ h2 (dd_all x) (dd_all y), dnat_dd, dnat_dd]
  ·have := dd_mono (show (Lib.decDigits y).length < (Lib.decDigits x).length by omega)
   rw [if_neg (by omega), decide_eq_false (by omega)]
theorem dtx_small {m : Nat} (h : (dtx m).size ≤ 18) : m < 1000000000000000000 := by
 rw [dtx_size] at h; exact (dd_le_iff m 17).1 h
theorem dtx_add {x y n : Nat} (hx : (dtx x).size ≤ n) (hy : (dtx y).size ≤ n) : (dtx (x + y)).size ≤ n + 1 := by
 rw [dtx_size] at *
 have h0 := List.length_pos_iff.2 (dd_ne_nil x)
 obtain ⟨k, rfl⟩ : ∃ k, n = k + 1 := ⟨n - 1, by omega⟩
 have h1 := (dd_le_iff x k).1 hx
 have h2 := (dd_le_iff y k).1 hy
 refine (dd_le_iff _ (k + 1)).2 ?_
 rw [Nat.pow_succ]; omega
theorem dtx_mono {x y : Nat} (h : x ≤ y) : (dtx x).size ≤ (dtx y).size := by
 rw [dtx_size, dtx_size]
 rcases Nat.lt_or_ge (Lib.decDigits y).length (Lib.decDigits x).length with h2 | h2
 ·have := dd_mono h2; omega
 ·exact h2
theorem ref_plus (u v : Int) (hu : (dtx u.natAbs).size ≤ 90000) (hv : (dtx v.natAbs).size ≤ 90000) : Runs (fun k => R.metrolabref01_Plus.f k (itx u) (itx v)) (itx (u + v)) := by
 unfold R.metrolabref01_Plus.f
 refine Runs.bind (brief_f u v) ?_
 by_cases h : (dtx u.natAbs).size ≤ 18 ∧ (dtx v.natAbs).size ≤ 18
 ·rw [if_pos h]
  have h1 := dtx_small h.1
  have h2 := dtx_small h.2
  simp only [if_true]
  rw [IntWalk.wrap64_in _ (by omega)]
  exact Runs.bind (ref_of (u + v) (by omega) (by omega)) (Runs.pure _)
 ·rw [if_neg h]
  simp only [Bool.false_eq_true, if_false, size_itx, below_itx, Option.bind_some]
  by_cases hs : decide (u < 0) = decide (v < 0)
  ·have hb : ((decide (u < 0) == decide (v < 0)) = true) := by rw [hs]; simp
   simp only [hb, if_true]
   have hp := paper_f u.natAbs v.natAbs (u.natAbs + v.natAbs) true (by omega) (by omega) (by simp)
   refine Runs.bind hp ?_
   have hz := dtx_add hu hv
   rw [signed_f _ _ (by omega)]
   have e : sg (decide (u < 0)) (u.natAbs + v.natAbs) = u + v := by
    unfold sg
    by_cases h3 : u < 0 <;> by_cases h4 : v < 0 <;> simp [h3, h4] at hs ⊢ <;> omega
   rw [e]; exact Runs.pure _
  ·have hb : ((decide (u < 0) == decide (v < 0)) = false) := by rw [beq_eq_false_iff_ne]; exact hs
   simp only [hb, Bool.false_eq_true, if_false, less_f, Option.bind_some]
   by_cases hl : u.natAbs < v.natAbs
   ·simp only [hl, decide_true, if_true]
    have hp := paper_f v.natAbs u.natAbs (v.natAbs - u.natAbs) false (by omega) (by omega) (by simp; omega)
    refine Runs.bind hp ?_
    have hz := dtx_mono (show v.natAbs - u.natAbs ≤ v.natAbs by omega)
    rw [signed_f _ _ (by omega)]
    have e : sg (decide (v < 0)) (v.natAbs - u.natAbs) = u + v := by
     unfold sg
     by_cases h3 : u < 0 <;> by_cases h4 : v < 0 <;> simp [h3, h4] at hs ⊢ <;> omega
    rw [e]; exact Runs.pure _
   ·simp only [hl, decide_false, Bool.false_eq_true, if_false]
    have hp := paper_f u.natAbs v.natAbs (u.natAbs - v.natAbs) false (by omega) (by omega) (by simp; omega)
    refine Runs.bind hp ?_
    have hz := dtx_mono (show u.natAbs - v.natAbs ≤ u.natAbs by omega)
    rw [signed_f _ _ (by omega)]
    have e : sg (decide (u < 0)) (u.natAbs - v.natAbs) = u + v := by
     unfold sg
     by_cases h3 : u < 0 <;> by_cases h4 : v < 0 <;> simp [h3, h4] at hs ⊢ <;> omega
    rw [e]; exact Runs.pure _
theorem ref_minus (u v : Int) (hu : (dtx u.natAbs).size ≤ 90000) (hv : (dtx v.natAbs).size ≤ 90000) : Runs (fun k => R.metrolabref01_Minus.f k (itx u) (itx v)) (itx (u - v)) := by
 unfold R.metrolabref01_Minus.f
 simp only [turned_f v (by omega), Option.bind_some]
 refine Runs.bind (ref_plus u (-v) hu (by rw [Int.natAbs_neg]; exact hv)) ?_
 exact Runs.pure _
theorem itx_zero_list (v : Int) : ((itx v).toList = ([48] : List UInt8)) ↔ v = 0 := by
 constructor
 ·intro h
  have := itx_nz (v := v)
  by_cases h0 : v = 0
  ·exact h0
  ·have := this h0
   rw [beq_eq_false_iff_ne] at this
   exact absurd h this
 ·rintro rfl; rw [itx_zero, Lib.toList_data]
theorem ref_order (u v : Int) (hu : (dtx u.natAbs).size ≤ 90000) (hv : (dtx v.natAbs).size ≤ 90000) : Runs (fun k => R.metrolabref01_Order.f k (itx u) (itx v)) (cmpv u v) := by
 unfold R.metrolabref01_Order.f
 refine Runs.bind (ref_minus u v hu hv) ?_
 rcases Int.lt_trichotomy u v with h | h | h
 ·rw [if_neg (fun h2 => by have := (itx_zero_list _).1 h2; omega), below_itx, Option.bind_some, decide_eq_true (by omega), if_pos rfl, cmpv_lt h]
  exact Runs.pure _
 ·rw [if_pos ((itx_zero_list _).2 (by omega)), cmpv_eq h]
  exact Runs.pure _
 ·rw [if_neg (fun h2 => by have := (itx_zero_list _).1 h2; omega), below_itx, Option.bind_some, decide_eq_false (by omega), if_neg (by decide), cmpv_gt h]
  exact Runs.pure _
theorem rcheck_l0 (D : List UInt8) (hD : D.length ≤ 4611686018427387904) (i : Nat) (hi : i ≤ D.length) (hp : (D.take i).all isDig = true) :
  Runs (fun k => R.metrolabref01_Check.l0 k (bas D) i) (if D.all isDig then (if D.length > 1024 then 11 else 0) else 3) := by
 obtain ⟨d, hd⟩ : ∃ d, d = D.length - i := ⟨_, rfl⟩
 induction d generalizing i with
 | zero =>
  have : i = D.length := by omega
  subst this
  rw [List.take_length] at hp
  rw [if_pos hp]
  refine Runs.succ (Runs.pure _) fun k => ?_
  rw [R.metrolabref01_Check.l0, bas_size, if_neg (by omega)]
  by_cases h : D.length > 1024
  ·rw [if_pos (by omega), if_pos h]
  ·rw [if_neg (by omega), if_neg h]
 | succ d ih =>
  have hl : i < D.length := by omega
  have hb := bt_nat (bas D) i (by rw [bas_size]; exact hl)
  rw [bas_list, List.getD, List.getElem?_eq_getElem hl, Option.getD_some] at hb
  by_cases hdig : isDig D[i] = true
  ·have hdd := hdig
   unfold isDig at hdd
   simp only [Bool.and_eq_true, decide_eq_true_eq] at hdd
   refine Runs.succ (ih (i + 1) (by omega) (by rw [← List.take_append_getElem hl, List.all_append, hp, List.all_cons, hdig]; rfl) (by omega)) fun k => ?_
   rw [R.metrolabref01_Check.l0, bas_size, if_pos (by omega), if_pos (by omega), hb, if_neg (by omega), if_neg (by omega), IntWalk.wrap64_in _ (by omega)]; rfl
  ·have hall : ¬ D.all isDig = true := by
    intro h; rw [List.all_eq_true] at h; exact hdig (h _ (List.getElem_mem hl))
   rw [if_neg hall]
   refine Runs.succ (Runs.pure _) fun k => ?_
   rw [R.metrolabref01_Check.l0, bas_size, if_pos (by omega), if_pos (by omega), hb]
   unfold isDig at hdig
   simp only [Bool.and_eq_true, decide_eq_true_eq, not_and] at hdig
   by_cases h1 : ((D[i].toNat : Nat) : Int) < 48
   ·rw [if_pos h1]
   ·rw [if_neg h1, if_pos (by have := hdig (by omega); omega)]
theorem ref_check (a : ByteArray) (ha : a.size ≤ 4611686018427387904) : Runs (fun k => R.metrolabref01_Check.f k a) (chk a) := by
 have hlen : (digs a.data.toList).length ≤ a.size := by rw [Lib.size_eq]; exact digs_len _
 unfold R.metrolabref01_Check.f
 simp only [size_f, Option.bind_some, Lib.toList_data, bas_list, bas_size]
 by_cases h0 : digs a.data.toList = []
 ·simp only [if_pos h0]
  rw [chk_nil h0]
  refine Runs.succ (Runs.pure _) fun k => ?_
  rw [R.metrolabref01_Check.j0, if_pos rfl]
 ·have hpos : 0 < (digs a.data.toList).length := List.length_pos_iff.2 h0
  simp only [if_neg h0, if_pos (show (0 : Int) < ((digs a.data.toList).length : Int) by omega)]
  have hb : bt (bas (digs a.data.toList)) 0 = 48 ↔ (digs a.data.toList).head? = some 48 := bt_head _ (by rw [bas_size]; exact hpos) 48
  have hl := rcheck_l0 (digs a.data.toList) (by omega) 0 (by omega) rfl
  have hgo : ((digs a.data.toList).head? = some 48 → a.data.toList = [48]) → Runs (fun k => R.metrolabref01_Check.j0 k (bas (digs a.data.toList)) false) (chk a) := by
   intro hx
   have e : chk a = if (digs a.data.toList).all isDig then (if (digs a.data.toList).length > 1024 then 11 else 0) else 3 := by
    by_cases hd : (digs a.data.toList).all isDig = true
    ·rw [chk_good h0 hd hx, if_pos hd]
    ·rw [chk_bad (Bool.eq_false_iff.2 hd), if_neg hd]
   rw [e]
   refine Runs.succ hl fun k => ?_
   rw [R.metrolabref01_Check.j0, if_neg (by decide)]; rfl
  have hbad : (digs a.data.toList).head? = some 48 → a.data.toList ≠ [48] → Runs (fun k => R.metrolabref01_Check.j0 k (bas (digs a.data.toList)) true) (chk a) := by
   intro hx hy
   rw [chk_lead hx hy]
   refine Runs.succ (Runs.pure _) fun k => ?_
   rw [R.metrolabref01_Check.j0, if_pos rfl]
  by_cases h48 : (digs a.data.toList).head? = some 48
  ·simp only [if_pos (hb.2 h48)]
   by_cases h1 : (digs a.data.toList).length > 1
   ·simp only [if_pos (show ((digs a.data.toList).length : Int) > 1 by omega)]
    exact hbad h48 (by intro h; rw [h] at h1; simp [digs] at h1)
   ·simp only [if_neg (show ¬ ((digs a.data.toList).length : Int) > 1 by omega)]
    by_cases h2 : a.size > 1
    ·simp only [decide_eq_true (show (a.size : Int) > 1 by omega)]
     exact hbad h48 (by intro h; rw [Lib.size_eq, h] at h2; simp at h2)
    ·simp only [decide_eq_false (show ¬ (a.size : Int) > 1 by omega)]
     refine hgo (fun _ => ?_)
     rw [Lib.size_eq] at h2
     cases hl2 : a.data.toList with
     | nil => rw [hl2] at hpos; simp [digs] at hpos
     | cons c t =>
      rw [hl2] at h2 h48 h1
      have ht : t = [] := List.eq_nil_of_length_eq_zero (by rw [List.length_cons] at h2; omega)
      subst ht
      unfold digs at h48
      by_cases h45 : ([c] : List UInt8).head? = some 45
      ·rw [if_pos h45] at h48; simp at h48
      ·rw [if_neg h45] at h48; simp at h48; rw [h48]
  ·simp only [if_neg (fun h => h48 (hb.1 h))]
   exact hgo (fun h => absurd h h48)
end Go.Proofs.YtkdpcgmnkifbbaaGreatDoor
end
section
namespace Go.Proofs.YtkdpcgmnkifbbaaGreatDoor
open Go.RowKit Go.Proofs.YtkdpcgmnkifbbaaGreatDoorW.PrintWords Go.Proofs.YtkdpcgmnkifbbaaGreatDoorW.PrintMore
def cval (l : List Int) : Int := l.foldl (fun m c => 10 * m + c) 0
theorem cval_snoc (l : List Int) (c : Int) : cval (l ++ [c]) = 10 * cval l + c := by simp [cval]
theorem revIndI {P : List Int → Prop} (nil : P []) (append : ∀ l c, P l → P (l ++ [c])) (l : List Int) : P l := by
 have h : ∀ l : List Int, P l.reverse := by
  intro l
  induction l with
  | nil => exact nil
  | cons c t ih => rw [List.reverse_cons]; exact append _ _ ih
 have := h l.reverse
 rwa [List.reverse_reverse] at this
theorem cval_app (l m : List Int) : cval (l ++ m) = cval l * 10 ^ m.length + cval m := by
 induction m using revIndI with
 | nil => simp [cval]
 | append t c ih =>
  rw [← List.append_assoc, cval_snoc, cval_snoc, ih, List.length_append, List.length_singleton, Int.pow_succ, ← Int.mul_assoc]
  omega
theorem cval_set (l : List Int) (j : Nat) (v : Int) (h : j < l.length) : cval (l.set j v) = cval l + (v - l.getD j 0) * 10 ^ (l.length - 1 - j) := by
 have e1 : l = l.take j ++ (l[j] :: l.drop (j + 1)) := by rw [← List.drop_eq_getElem_cons h, List.take_append_drop]
 have e2 : l.set j v = l.take j ++ (v :: l.drop (j + 1)) := by
  conv => lhs; rw [e1]
  rw [List.set_append_right _ _ (by rw [List.length_take]; omega), List.length_take]
  rw [show j - min j l.length = 0 by omega]; rfl
 have e3 : ∀ c : Int, cval (c :: l.drop (j + 1)) = c * 10 ^ (l.length - 1 - j) + cval (l.drop (j + 1)) := by
  intro c
  have := cval_app [c] (l.drop (j + 1))
  rw [List.singleton_append] at this
  rw [this, List.length_drop, show l.length - (j + 1) = l.length - 1 - j by omega]
  simp [cval]
 rw [e2, cval_app, e3]
 have e4 : cval l = cval (l.take j) * 10 ^ (l.drop j).length + cval (l.drop j) := by
  rw [← cval_app, List.take_append_drop]
 rw [e4, List.drop_eq_getElem_cons h, e3, List.getD, List.getElem?_eq_getElem h, Option.getD_some]
 simp only [List.length_cons]
 rw [Int.sub_mul]; omega
theorem cval_zero (n : Nat) : cval (List.replicate n 0) = 0 := by
 induction n with
 | zero => rfl
 | succ n ih => rw [List.replicate_succ', cval_snoc, ih]; rfl
theorem carry_step {a c v q r p o V : Int} (hinv : (10 * a + v + c) * p + o = V) (hdm : 10 * q + r = c + v) : (a + q) * (p * 10) + (r * p + o) = V := by
 have h : 10 * a + v + c = 10 * (a + q) + r := by omega
 rw [h, Int.add_mul] at hinv
 rw [show (a + q) * (p * 10) = 10 * (a + q) * p by rw [Int.mul_comm p 10, ← Int.mul_assoc, Int.mul_comm (a + q) 10]]
 rw [← Int.add_assoc]; exact hinv
theorem tmod_ten (t : Nat) : Int.tmod (t : Int) 10 = ((t % 10 : Nat) : Int) := rfl
theorem tdiv_ten (t : Nat) : Int.tdiv (t : Int) 10 = ((t / 10 : Nat) : Int) := rfl
theorem div_ten_le {t : Nat} (h : t ≤ 20000000000000) : t / 10 ≤ 20000000000000 := Nat.le_trans (Nat.div_le_self _ _) h
theorem set_digit (pre' : List Int) (x : Int) (O : List UInt8) (j d : Nat) (hp' : pre'.length = j) (hd : d < 10) : (pre' ++ [x] ++ numsOf O).set j ((48 + d : Nat) : Int) = pre' ++ numsOf (UInt8.ofNat (48 + d) :: O) := by
 rw [List.append_assoc, List.set_append_right _ _ (Nat.le_of_eq hp'), hp', Nat.sub_self]
 have e9 := dig_of d hd
 unfold numsOf
 rw [List.map_cons, e9]; rfl
theorem byte_digit {d : Nat} (hd : d < 10) : (wrap64 (48 + (d : Int))) % 256 = ((48 + d : Nat) : Int) := by
 rw [IntWalk.wrap64_in _ (by omega)]; omega
theorem l2_round (cols : List Int) (n j t c v : Nat) (pre' : List Int) (x : Int) (O : List UInt8) (k : Nat) (hcn : cols.length = n) (hj : j < n) (hn1 : n ≤ 1000000) (hp' : pre'.length = j) (hO : O.length = n - (j + 1)) (ht20 : t ≤ 20000000000000) (ht : (c : Int) + v = t) (hrd : rd cols j = v) :
  R.metrolabref01_product.l2 (k + 1) cols (pre' ++ [x] ++ numsOf O) c (((j + 1 : Nat) : Int) - 1) = R.metrolabref01_product.l2 k cols (pre' ++ numsOf (UInt8.ofNat (48 + t % 10) :: O)) ((t / 10 : Nat) : Int) ((j : Int) - 1) := by
 have ej : ((j + 1 : Nat) : Int) - 1 = j := by omega
 have hol : ((pre' ++ [x] ++ numsOf O).length : Int) = n := by
  unfold numsOf
  rw [List.length_append, List.length_append, List.length_map, hp', hO, List.length_singleton]
  omega
 have hd : t % 10 < 10 := Nat.mod_lt _ (by decide)
 have hq := div_ten_le ht20
 have e5 : wrap64 ((t : Nat) : Int) = ((t : Nat) : Int) := IntWalk.wrap64_in _ (by omega)
 have e9 : wrap64 ((t / 10 : Nat) : Int) = ((t / 10 : Nat) : Int) := by
  generalize t / 10 = q at hq ⊢
  exact IntWalk.wrap64_in _ (by omega)
 have e10 : wrap64 ((j : Int) - 1) = (j : Int) - 1 := IntWalk.wrap64_in _ (by omega)
 have c1 : (j : Int) ≥ 0 := by omega
 have c2 : (0 : Int) ≤ j := c1
 have c3 : (j : Int) < (cols.length : Int) := by omega
 have c4 : (j : Int) < ((pre' ++ [x] ++ numsOf O).length : Int) := by omega
 rw [ej, R.metrolabref01_product.l2, if_pos c1, if_pos c2, if_pos c3, if_pos c4, hrd, ht, e5, tmod_ten, tdiv_ten, e9, e10, byte_digit hd, Int.toNat_natCast, set_digit pre' x O j _ hp' hd]
theorem product_l2 (cols : List Int) (n V M : Nat) (hn : cols.length = n) (hn0 : 0 < n) (hn1 : n ≤ 1000000) (hM : M ≤ 10000000000000) (hc : ∀ v ∈ cols, 0 ≤ v ∧ v ≤ M) (hV : cval cols = V) (hVn : V < 10 ^ n)
  (j : Nat) (hj : j ≤ n) (c : Nat) (hcM : c ≤ M) (pre : List Int) (O : List UInt8) (hp : pre.length = j) (hO : O.length = n - j) (dO : O.all isDig = true)
  (hinv : (cval (cols.take j) + c) * 10 ^ (n - j) + dnat O = V) :
  Runs (fun k => R.metrolabref01_product.l2 k cols (pre ++ numsOf O) c ((j : Int) - 1)) (dtx V) := by
 induction j generalizing c pre O with
 | zero =>
  have hpre : pre = [] := List.eq_nil_of_length_eq_zero hp
  subst hpre
  have hlt := dnat_lt dO
  rw [hO, Nat.sub_zero] at hlt
  rw [Nat.sub_zero, List.take_zero, show cval [] = 0 from rfl, Int.zero_add] at hinv
  have hVO : dnat O = V := by
   have hpw : ((10 : Int) ^ n) = ((10 ^ n : Nat) : Int) := by push_cast; rfl
   rw [hpw] at hinv
   have h2 : c * 10 ^ n + dnat O = V := by exact_mod_cast hinv
   rcases Nat.eq_zero_or_pos c with h | h
   ·subst h; omega
   ·have : 1 * 10 ^ n ≤ c * 10 ^ n := Nat.mul_le_mul_right _ h
    omega
  have hb := bare_f O dO (by intro h; rw [h] at hO; simp at hO; omega)
  rw [hVO] at hb
  have hb2 : Runs (fun k => (R.metrolabref01_bare.f k (strOfNums ([] ++ numsOf O))).bind fun t127 => (some t127)) (dtx V) := by
   rw [List.nil_append, str_nums]; exact Runs.bind hb (Runs.pure _)
  refine Runs.succ hb2 fun k => ?_
  rw [R.metrolabref01_product.l2, if_neg (by omega)]
 | succ j ih =>
  have hjl : j < cols.length := by omega
  obtain ⟨pre', x, rfl⟩ : ∃ pre' x, pre = pre' ++ [x] := by
   refine ⟨pre.dropLast, pre.getLast (by intro h; rw [h] at hp; simp at hp), (List.dropLast_concat_getLast _).symm⟩
  have hp' : pre'.length = j := by simp at hp; exact hp
  have hv := hc _ (List.getElem_mem hjl)
  obtain ⟨v, hvn⟩ : ∃ v : Nat, cols[j] = v := ⟨cols[j].toNat, by omega⟩
  rw [hvn] at hv
  have hrd : rd cols (j : Int) = v := by unfold rd; simp [List.getD, List.getElem?_eq_getElem hjl, hvn]
  have htk : cval (cols.take (j + 1)) = 10 * cval (cols.take j) + v := by
   rw [← List.take_append_getElem hjl, cval_snoc, hvn]
  have hnj : n - j = (n - (j + 1)) + 1 := by omega
  have hdl : (c + v) % 10 < 10 := Nat.mod_lt _ (by decide)
  have hnext := ih (by omega) ((c + v) / 10) (by omega) pre' (UInt8.ofNat (48 + (c + v) % 10) :: O) hp' (by rw [List.length_cons, hO]; omega) (by rw [List.all_cons, isDig_of _ hdl, dO]; rfl) (by
   rw [dnat_digit _ hdl, hO, hnj, Int.pow_succ]
   rw [htk] at hinv
   have hdm := Nat.div_add_mod (c + v) 10
   have hdm2 : 10 * (((c + v) / 10 : Nat) : Int) + (((c + v) % 10 : Nat) : Int) = c + v := by exact_mod_cast hdm
   have h3 := carry_step hinv hdm2
   rw [Int.natCast_add, Int.natCast_mul, Int.natCast_pow]
   exact h3)
  exact Runs.succ hnext fun k => l2_round cols n j (c + v) c v pre' x O k hn (by omega) hn1 hp' hO (by omega) (by push_cast; rfl) hrd
end Go.Proofs.YtkdpcgmnkifbbaaGreatDoor
end
section
namespace Go.Proofs.YtkdpcgmnkifbbaaGreatDoor
open Go.RowKit Go.Proofs.YtkdpcgmnkifbbaaGreatDoorW.PrintWords Go.Proofs.YtkdpcgmnkifbbaaGreatDoorW.PrintMore
structure Cols (cols : List Int) (n m V : Nat) : Prop where
 len : cols.length = n
 bound : ∀ v ∈ cols, 0 ≤ v ∧ v ≤ ((81 * m : Nat) : Int)
 val : cval cols = V
theorem Cols.step {cols : List Int} {n m V : Nat} (h : Cols cols n m V) {j a b : Nat} (hj : j < n) (ha : a < 10) (hb : b < 10) : Cols (cols.set j (rd cols j + ((a * b : Nat) : Int))) n (m + 1) (V + a * b * 10 ^ (n - 1 - j)) := by
 have hjl : j < cols.length := by rw [h.len]; exact hj
 have hr : rd cols (j : Int) = cols[j] := by unfold rd; simp [List.getD, List.getElem?_eq_getElem hjl]
 have hv := h.bound _ (List.getElem_mem hjl)
 have hab : a * b ≤ 9 * 9 := Nat.mul_le_mul (by omega) (by omega)
 refine ⟨by rw [List.length_set, h.len], fun v hv2 => ?_, ?_⟩
 ·rcases List.mem_or_eq_of_mem_set hv2 with h2 | h2
  ·have := h.bound v h2; omega
  ·rw [h2, hr]; generalize a * b = ab at *; omega
 ·rw [cval_set _ _ _ hjl, h.val, h.len, hr, List.getD, List.getElem?_eq_getElem hjl, Option.getD_some]
  rw [show cols[j] + ((a * b : Nat) : Int) - cols[j] = ((a * b : Nat) : Int) from by generalize a * b = ab; clear hab hv hr h; omega]
  generalize a * b = ab
  rw [Int.natCast_add, Int.natCast_mul, Int.natCast_pow, show ((10 : Nat) : Int) = 10 from rfl]
theorem Cols.val' {cols : List Int} {n m V V' : Nat} (h : Cols cols n m V) (e : V = V') : Cols cols n m V' := e ▸ h
def pval (A B : List UInt8) (i k : Nat) (a : Nat) : Nat := dnat (A.take i) * 10 ^ (A.length - i) * dnat B + a * 10 ^ (A.length - 1 - i) * (dnat (B.take k) * 10 ^ (B.length - k))
theorem pval_step {A B : List UInt8} {i k a b : Nat} (hi : i < A.length) (hk : k < B.length) (hb : (B.getD k 0).toNat - 48 = b) : pval A B i (k + 1) a = pval A B i k a + a * b * 10 ^ (A.length + B.length - 1 - (i + k + 1)) := by
 unfold pval
 rw [dnat_take_succ B k hk, hb, show B.length - k = (B.length - (k + 1)) + 1 by omega, Nat.pow_succ, show A.length + B.length - 1 - (i + k + 1) = (A.length - 1 - i) + (B.length - (k + 1)) by omega, Nat.pow_add]
 generalize 10 ^ (A.length - 1 - i) = P
 generalize 10 ^ (B.length - (k + 1)) = Q
 grind
theorem pval_end {A B : List UInt8} {i a : Nat} (hi : i < A.length) (ha : (A.getD i 0).toNat - 48 = a) : pval A B i B.length a = dnat (A.take (i + 1)) * 10 ^ (A.length - (i + 1)) * dnat B := by
 unfold pval
 rw [dnat_take_succ A i hi, ha, List.take_length, Nat.sub_self, Nat.pow_zero, show A.length - i = (A.length - (i + 1)) + 1 by omega, Nat.pow_succ, show A.length - 1 - i = A.length - (i + 1) by omega]
 generalize 10 ^ (A.length - (i + 1)) = P
 grind
theorem pval_zero {A B : List UInt8} {i a : Nat} : pval A B i 0 a = dnat (A.take i) * 10 ^ (A.length - i) * dnat B := by
 unfold pval; rw [List.take_zero]; simp [dnat]
theorem digit_at {D : List UInt8} (h : D.all isDig = true) {j : Nat} (hj : j < D.length) : ∃ a, a < 10 ∧ bt (bas D) j = ((48 + a : Nat) : Int) ∧ (D.getD j 0).toNat - 48 = a := by
 have hd : isDig (D[j]) = true := by
  rw [List.all_eq_true] at h; exact h _ (List.getElem_mem hj)
 obtain ⟨a, ha, hc, hv⟩ := isDig_val hd
 refine ⟨a, ha, ?_, ?_⟩
 ·rw [bt_nat _ _ (by rw [bas_size]; exact hj), bas_list, List.getD, List.getElem?_eq_getElem hj, Option.getD_some, hc, dig_of a ha]
 ·rw [List.getD, List.getElem?_eq_getElem hj, Option.getD_some]; exact hv
theorem wrap_sum {x y : Int} {m : Nat} (h0 : 0 ≤ x) (h1 : x ≤ ((81 * m : Nat) : Int)) (hm : m ≤ 10000000000) (h2 : 0 ≤ y) (h3 : y ≤ 81) : wrap64 (x + y) = x + y := IntWalk.wrap64_in _ (by omega)
theorem wrap_idx {i k : Nat} (hi : i ≤ 100000) (hk : k ≤ 100000) : wrap64 ((wrap64 ((i : Int) + k)) + 1) = ((i + k + 1 : Nat) : Int) := by
 rw [IntWalk.wrap64_in ((i : Int) + k) (by omega), IntWalk.wrap64_in _ (by omega)]; omega
theorem wrap_succ {k : Nat} (hk : k ≤ 100000) : wrap64 ((k : Int) + 1) = ((k + 1 : Nat) : Int) := by rw [IntWalk.wrap64_in _ (by omega)]; omega
theorem dig_back {a : Nat} (h : a < 10) : (((48 + a : Nat) : Int) - 48) % 256 = a := by omega
theorem wrap_small {x : Nat} (h : x ≤ 81) : wrap64 (x : Int) = x := IntWalk.wrap64_in _ (by omega)
theorem l1_round (A B : List UInt8) (cols : List Int) (n m V i k a b : Nat) (hA : A.length ≤ 100000) (hB : B.length ≤ 100000) (hn : n = A.length + B.length) (hi : i < A.length) (hk : k < B.length) (ha : a < 10) (hb : b < 10) (ea : bt (bas A) i = ((48 + a : Nat) : Int)) (eb : bt (bas B) k = ((48 + b : Nat) : Int)) (hc : Cols cols n m V) (hm : m ≤ 10000000000) (r : Nat) :
  R.metrolabref01_product.l1 (r + 1) (bas A) (bas B) cols i k = R.metrolabref01_product.l1 r (bas A) (bas B) (cols.set (i + k + 1) (rd cols ((i + k + 1 : Nat) : Int) + ((a * b : Nat) : Int))) i ((k + 1 : Nat) : Int) := by
 have hlen := hc.len
 have hjl : i + k + 1 < cols.length := by omega
 have hr : rd cols ((i + k + 1 : Nat) : Int) = cols[i + k + 1] := by unfold rd; rw [Int.toNat_natCast]; simp [List.getD, List.getElem?_eq_getElem hjl]
 have hv := hc.bound _ (List.getElem_mem hjl)
 rw [← hr] at hv
 have hab : a * b ≤ 9 * 9 := Nat.mul_le_mul (by omega) (by omega)
 have c1 : (k : Int) < (B.length : Int) := by omega
 have c2 : (0 : Int) ≤ ((i + k + 1 : Nat) : Int) := by omega
 have c3 : ((i + k + 1 : Nat) : Int) < (cols.length : Int) := by omega
 have c4 : (0 : Int) ≤ (i : Int) := by omega
 have c5 : (i : Int) < (A.length : Int) := by omega
 have c6 : (0 : Int) ≤ (k : Int) := by omega
 have e4 : (a : Int) * b = ((a * b : Nat) : Int) := (Int.natCast_mul a b).symm
 have e5 := wrap_sum (y := ((a * b : Nat) : Int)) hv.1 hv.2 hm (Int.natCast_nonneg _) (Int.ofNat_le.2 hab)
 rw [R.metrolabref01_product.l1, bas_size, bas_size, if_pos c1, wrap_idx (by omega) (by omega), if_pos c2, if_pos c3, if_pos c4, if_pos c5, if_pos c6, ea, eb, dig_back ha, dig_back hb, e4, wrap_small hab, e5, wrap_succ (by omega), Int.toNat_natCast]
theorem product_l1 (A B : List UInt8) (res : ByteArray) (n i a : Nat) (hA : A.length ≤ 100000) (hB : B.length ≤ 100000) (hn : n = A.length + B.length) (dB : B.all isDig = true) (hi : i < A.length) (ha : a < 10) (ea : bt (bas A) i = ((48 + a : Nat) : Int)) (ea2 : (A.getD i 0).toNat - 48 = a)
  (hnext : ∀ cols, Cols cols n ((i + 1) * B.length) (dnat (A.take (i + 1)) * 10 ^ (A.length - (i + 1)) * dnat B) → Runs (fun k => R.metrolabref01_product.l0 k (bas A) (bas B) cols ((i + 1 : Nat) : Int)) res)
  (d k : Nat) (hd : k + d = B.length) (cols : List Int) (hc : Cols cols n (i * B.length + k) (pval A B i k a)) :
  Runs (fun r => R.metrolabref01_product.l1 r (bas A) (bas B) cols i k) res := by
 have hib : i * B.length ≤ 100000 * 100000 := Nat.mul_le_mul (by omega) hB
 induction d generalizing k cols with
 | zero =>
  have hk : k = B.length := by omega
  subst hk
  rw [pval_end hi ea2] at hc
  rw [show i * B.length + B.length = (i + 1) * B.length by rw [Nat.succ_mul]] at hc
  refine Runs.succ (hnext cols hc) fun r => ?_
  have e6 : wrap64 ((i : Int) + 1) = ((i + 1 : Nat) : Int) := by rw [IntWalk.wrap64_in _ (by omega)]; omega
  rw [R.metrolabref01_product.l1, bas_size, bas_size, if_neg (by omega), e6]
 | succ d ih =>
  have hk : k < B.length := by omega
  obtain ⟨b, hb, eb, eb2⟩ := digit_at dB hk
  have hs := (hc.step (j := i + k + 1) (a := a) (b := b) (by omega) ha hb).val' (show _ = pval A B i (k + 1) a by rw [hn]; exact (pval_step hi hk eb2).symm)
  have hib2 : (i + 1) * B.length ≤ 100000 * 100000 := Nat.mul_le_mul (by omega) hB
  rw [Nat.succ_mul] at hib2
  refine Runs.succ (ih (k + 1) (by omega) _ hs) fun r => ?_
  exact l1_round A B cols n _ _ i k a b hA hB hn hi hk ha hb ea eb hc (by omega) r
theorem product_l0 (A B : List UInt8) (n : Nat) (hA : A.length ≤ 100000) (hB : B.length ≤ 100000) (hn : n = A.length + B.length) (h0 : 0 < n) (dA : A.all isDig = true) (dB : B.all isDig = true)
  (d i : Nat) (hd : i + d = A.length) (cols : List Int) (hc : Cols cols n (i * B.length) (dnat (A.take i) * 10 ^ (A.length - i) * dnat B)) :
  Runs (fun r => R.metrolabref01_product.l0 r (bas A) (bas B) cols i) (dtx (dnat A * dnat B)) := by
 induction d generalizing i cols with
 | zero =>
  have hi : i = A.length := by omega
  subst hi
  rw [List.take_length, Nat.sub_self, Nat.pow_zero, Nat.mul_one] at hc
  have hm : A.length * B.length ≤ 100000 * 100000 := Nat.mul_le_mul hA hB
  have hlt : dnat A * dnat B < 10 ^ n := by
   rw [hn, Nat.pow_add]
   exact Nat.mul_lt_mul_of_lt_of_le (dnat_lt dA) (Nat.le_of_lt (dnat_lt dB)) (Nat.pow_pos (by decide))
  have hl := product_l2 cols n (dnat A * dnat B) (81 * (A.length * B.length)) hc.len h0 (by omega) (by omega) hc.bound hc.val hlt n (Nat.le_refl _) 0 (by omega) (List.replicate n 0) [] (by simp) (by simp) rfl
   (by rw [← hc.len, List.take_length, hc.val, Nat.sub_self]; simp [dnat])
  refine Runs.succ hl fun r => ?_
  rw [R.metrolabref01_product.l0, bas_size, if_neg (by omega), hc.len, if_pos (by omega), if_pos (by omega), IntWalk.wrap64_in _ (by omega), Int.toNat_natCast]
  simp [numsOf]
 | succ d ih =>
  have hi : i < A.length := by omega
  obtain ⟨a, ha, ea, ea2⟩ := digit_at dA hi
  have hl := product_l1 A B (dtx (dnat A * dnat B)) n i a hA hB hn dB hi ha ea ea2 (fun cols' hc' => ih (i + 1) (by omega) cols' hc') B.length 0 (by omega) cols (hc.val' pval_zero.symm)
  refine Runs.succ hl fun r => ?_
  rw [R.metrolabref01_product.l0, bas_size, if_pos (by omega)]; rfl
theorem product_f (x y : Nat) (hx : (dtx x).size ≤ 100000) (hy : (dtx y).size ≤ 100000) : Runs (fun k => R.metrolabref01_product.f k (dtx x) (dtx y)) (dtx (x * y)) := by
 have hx2 : (Lib.decDigits x).length ≤ 100000 := by rw [← dtx_size]; exact hx
 have hy2 : (Lib.decDigits y).length ≤ 100000 := by rw [← dtx_size]; exact hy
 have hp := dtx_pos x
 have hl := product_l0 (Lib.decDigits x) (Lib.decDigits y) ((dtx x).size + (dtx y).size) hx2 hy2 (by rw [dtx_size, dtx_size]) (by omega) (dd_all x) (dd_all y) (Lib.decDigits x).length 0 (by omega) (List.replicate ((dtx x).size + (dtx y).size) 0)
  ⟨by simp, fun v hv => by rw [(List.mem_replicate.1 hv).2]; omega, by rw [cval_zero, List.take_zero]; simp [dnat]⟩
 rw [dnat_dd, dnat_dd] at hl
 refine Runs.congr hl fun k => ?_
 have e1 : wrap64 (((dtx x).size : Int) + ((dtx y).size : Int)) = (((dtx x).size + (dtx y).size : Nat) : Int) := by rw [IntWalk.wrap64_in _ (by omega)]; omega
 unfold R.metrolabref01_product.f
 rw [e1, if_pos (by omega), if_pos (by omega), Int.toNat_natCast]; rfl
end Go.Proofs.YtkdpcgmnkifbbaaGreatDoor
end
section
namespace Go.Proofs.YtkdpcgmnkifbbaaGreatDoor
open Go.RowKit Go.Proofs.YtkdpcgmnkifbbaaGreatDoorW.PrintWords Go.Proofs.YtkdpcgmnkifbbaaGreatDoorW.PrintMore
theorem dtx_le_itx (u : Int) : (dtx u.natAbs).size ≤ (itx u).size := by
 rw [dtx_size, Lib.size_eq, ← itx_digs]; exact digs_len _
theorem lt_of_size {m n : Nat} (h : (dtx m).size ≤ n) : m < 10 ^ n := by
 have h0 := dtx_pos m
 obtain ⟨k, rfl⟩ : ∃ k, n = k + 1 := ⟨n - 1, by omega⟩
 rw [dtx_size] at h; exact (dd_le_iff m k).1 h
theorem size_of_lt {m n : Nat} (h : m < 10 ^ n) (h0 : 0 < n) : (dtx m).size ≤ n := by
 obtain ⟨k, rfl⟩ : ∃ k, n = k + 1 := ⟨n - 1, by omega⟩
 rw [dtx_size]; exact (dd_le_iff m k).2 h
theorem dtx_mul {x y a b : Nat} (hx : (dtx x).size ≤ a) (hy : (dtx y).size ≤ b) : (dtx (x * y)).size ≤ a + b := by
 have h1 := lt_of_size hx
 have h2 := lt_of_size hy
 refine size_of_lt ?_ (by have := dtx_pos x; omega)
 rw [Nat.pow_add]
 exact Nat.mul_lt_mul_of_lt_of_le h1 (Nat.le_of_lt h2) (Nat.pow_pos (by decide))
theorem itx_size_dtx (u : Int) : (itx u).size ≤ (dtx u.natAbs).size + 1 := by
 rw [dtx_size, Lib.size_eq, itx_list]
 unfold Lib.itoa
 split
 ·rw [List.length_cons]; exact Nat.le_refl _
 ·rename_i h; rw [show u.toNat = u.natAbs by omega]; exact Nat.le_succ _
theorem times_long (u v : Int) (x y : Int) (hu : (dtx u.natAbs).size ≤ 90000) (hv : (dtx v.natAbs).size ≤ 90000) : Runs (fun k => R.metrolabref01_Times.j0 k (itx u) (itx v) x y false) (itx (u * v)) := by
 have hb : Runs (fun k => (R.metrolabref01_product.f k (dtx u.natAbs) (dtx v.natAbs)).bind fun t165 => ((R.metrolabref01_signed.f t165 (decide (u < 0) != decide (v < 0))).bind fun t168 => (some t168))) (itx (u * v)) := by
  refine Runs.bind (product_f _ _ (by omega) (by omega)) ?_
  have hz := dtx_mul hu hv
  rw [signed_f _ _ (by omega), sg_mul, Option.bind_some]
  exact Runs.pure _
 refine Runs.succ hb fun k => ?_
 rw [R.metrolabref01_Times.j0, if_neg (by decide), size_itx, size_itx, below_itx, below_itx, Option.bind_some, Option.bind_some]
 congr 1
theorem ref_times (u v : Int) (hu : (dtx u.natAbs).size ≤ 90000) (hv : (dtx v.natAbs).size ≤ 90000) : Runs (fun k => R.metrolabref01_Times.f k (itx u) (itx v)) (itx (u * v)) := by
 unfold R.metrolabref01_Times.f
 refine Runs.bind (brief_f u v) ?_
 by_cases h : (dtx u.natAbs).size ≤ 18 ∧ (dtx v.natAbs).size ≤ 18
 ·rw [if_pos h]
  simp only [if_true]
  have hs1 := itx_size_dtx u
  have hs2 := itx_size_dtx v
  have e1 : wrap64 (((itx u).size : Int) + ((itx v).size : Int)) = (((itx u).size + (itx v).size : Nat) : Int) := by rw [IntWalk.wrap64_in _ (by omega)]; omega
  rw [e1]
  by_cases h18 : (itx u).size + (itx v).size ≤ 18
  ·rw [decide_eq_true (by omega)]
   have hm := dtx_mul (dtx_le_itx u) (dtx_le_itx v)
   have hlt : u.natAbs * v.natAbs < 10 ^ 18 := lt_of_size (by omega)
   have hlt2 : (u * v).natAbs < 10 ^ 18 := by rw [Int.natAbs_mul]; exact hlt
   refine Runs.succ (f := fun k => (R.metrolabref01_Of.f k (u * v)).bind fun t162 => (some t162)) (Runs.bind (ref_of (u * v) (by omega) (by omega)) (Runs.pure _)) fun k => ?_
   rw [R.metrolabref01_Times.j0, if_pos rfl, IntWalk.wrap64_in _ (by omega)]
  ·rw [decide_eq_false (by omega)]
   exact times_long u v u v hu hv
 ·rw [if_neg h]
  simp only [Bool.false_eq_true, if_false]
  exact times_long u v 0 0 hu hv
theorem divided_l1 (A : ByteArray) (Y : Nat) (Q : List UInt8) (i : Nat) (res : ByteArray × ByteArray) (hA : A.size ≤ 1000000) (hi : i ≤ 1000000) (hQ : Q.length ≤ 1000000) (x' : Nat) (hx : x' < Y) (t dg : Nat) (hdg : dg + t ≤ 9)
  (hsz : (dtx (Y * t + x')).size ≤ 100000) (hY : (dtx Y).size ≤ 100000)
  (hnext : Runs (fun k => R.metrolabref01_divided.l0 k A (dtx Y) (bas (Q ++ [UInt8.ofNat (48 + (dg + t))])) (dtx x') ((i + 1 : Nat) : Int)) res) :
  Runs (fun k => R.metrolabref01_divided.l1 k A (dtx Y) (bas Q) (dtx (Y * t + x')) i ((48 + dg : Nat) : Int)) res := by
 induction t generalizing dg with
 | zero =>
  rw [Nat.mul_zero, Nat.zero_add]
  rw [Nat.add_zero] at hnext
  refine Runs.succ hnext fun k => ?_
  have e1 : strOfNums [((48 + dg : Nat) : Int)] = bas [UInt8.ofNat (48 + dg)] := by
   have := str_nums [UInt8.ofNat (48 + dg)]
   unfold numsOf at this
   rw [List.map_cons, List.map_nil, dig_of dg (by omega)] at this
   exact this
  have e2 : bas Q ++ bas [UInt8.ofNat (48 + dg)] = bas (Q ++ [UInt8.ofNat (48 + dg)]) := by
   apply ByteArray.ext
   apply Array.toList_inj.1
   rw [ByteArray.data_append, Array.toList_append]; rfl
  rw [R.metrolabref01_divided.l1, less_f, Option.bind_some, decide_eq_true hx, if_pos rfl, Option.bind_some, e1, bas_size, bas_size, if_pos (by simp; omega), e2, IntWalk.wrap64_in _ (by omega)]
  rfl
 | succ t ih =>
  have hge : ¬ (Y * (t + 1) + x' < Y) := by rw [Nat.mul_succ]; omega
  have hp := paper_f (Y * (t + 1) + x') Y (Y * t + x') false hsz hY (by rw [Nat.mul_succ]; simp; omega)
  have hle := dtx_mono (show Y * t + x' ≤ Y * (t + 1) + x' by rw [Nat.mul_succ]; omega)
  have hn := ih (dg + 1) (by omega) (by omega) (by rw [show dg + 1 + t = dg + (t + 1) by omega]; exact hnext)
  refine Runs.succ (Runs.bind (f := fun k t177 => R.metrolabref01_divided.l1 k A (dtx Y) (bas Q) t177 i ((48 + (dg + 1) : Nat) : Int)) hp hn) fun k => ?_
  have e1 : (((48 + dg : Nat) : Int) + 1) % 256 = ((48 + (dg + 1) : Nat) : Int) := by omega
  rw [R.metrolabref01_divided.l1, less_f, Option.bind_some, decide_eq_false hge, if_neg (by decide), e1]
theorem dtx_snoc {r a n : Nat} (ha : a < 10) (hr : (dtx r).size ≤ n) : (dtx (10 * r + a)).size ≤ n + 1 := by
 have h := lt_of_size hr
 refine size_of_lt ?_ (by omega)
 rw [Nat.pow_succ]
 generalize 10 ^ n = p at *
 omega
theorem extract_one (D : List UInt8) (i : Nat) (h : i < D.length) : (bas D).extract i (i + 1) = bas [D.getD i 0] := by
 rw [Lib.extract_eq, bas_list, show i + 1 - i = 1 by omega]
 unfold bas
 congr 2
 rw [List.drop_eq_getElem_cons h, List.take_succ_cons, List.take_zero, List.getD, List.getElem?_eq_getElem h, Option.getD_some]
theorem div_step {X' Y D r a q m : Nat} (h : X' = Y * D + r) (h2 : Y * q + m = 10 * r + a) : 10 * X' + a = Y * (10 * D + q) + m := by
 subst h
 rw [Nat.mul_add Y, Nat.mul_left_comm Y 10 D]
 generalize Y * D = u at *
 generalize Y * q = v at *
 omega
theorem bas_app (l m : List UInt8) : bas l ++ bas m = bas (l ++ m) := by
 apply ByteArray.ext
 apply Array.toList_inj.1
 rw [ByteArray.data_append, Array.toList_append]; rfl
theorem getD_digit {D : List UInt8} (h : D.all isDig = true) {i a : Nat} (hi : i < D.length) (e : (D.getD i 0).toNat - 48 = a) : D.getD i 0 = UInt8.ofNat (48 + a) := by
 have hd2 : isDig (D.getD i 0) = true := by
  rw [List.all_eq_true] at h
  rw [List.getD, List.getElem?_eq_getElem hi]
  exact h _ (List.getElem_mem hi)
 obtain ⟨c, hc, e2, hv⟩ := isDig_val hd2
 rw [e2]; congr 2; omega
theorem bare_snoc (r a : Nat) (ha : a < 10) : Runs (fun k => R.metrolabref01_bare.f k (bas (Lib.decDigits r ++ [UInt8.ofNat (48 + a)]))) (dtx (10 * r + a)) := by
 have := bare_f (Lib.decDigits r ++ [UInt8.ofNat (48 + a)]) (by rw [List.all_append, dd_all, List.all_cons, isDig_of _ ha]; rfl) (by simp)
 rw [dnat_append, dnat_dd, dig_of a ha, show 48 + a - 48 = a by omega] at this
 exact this
theorem l0_round (D : List UInt8) (Y : ByteArray) (Q : ByteArray) (r i a : Nat) (hD : D.length ≤ 50000) (hi : i < D.length) (e : D.getD i 0 = UInt8.ofNat (48 + a)) (hr : (dtx r).size ≤ 50000) (k : Nat) :
  R.metrolabref01_divided.l0 (k + 1) (bas D) Y Q (dtx r) i = (R.metrolabref01_bare.f k (bas (Lib.decDigits r ++ [UInt8.ofNat (48 + a)]))).bind fun t172 => R.metrolabref01_divided.l1 k (bas D) Y Q t172 i 48 := by
 have e2 : (bas D).extract i (i + 1) = bas [UInt8.ofNat (48 + a)] := by rw [extract_one D i hi, e]
 have e3 : dtx r ++ bas [UInt8.ofNat (48 + a)] = bas (Lib.decDigits r ++ [UInt8.ofNat (48 + a)]) := bas_app _ _
 have c1 : (i : Int) < (D.length : Int) := by omega
 have c2 : (0 : Int) ≤ i := by omega
 have c3 : (i : Int) ≤ ((i + 1 : Nat) : Int) := by omega
 have c4 : ((i + 1 : Nat) : Int) ≤ (D.length : Int) := by omega
 have c5 : (dtx r).size + (bas [UInt8.ofNat (48 + a)]).size ≤ 9223372036854775807 := by rw [bas_size, List.length_singleton]; omega
 rw [R.metrolabref01_divided.l0, bas_size, if_pos c1, if_pos c2, wrap_succ (by omega), if_pos c3, if_pos c4, Int.toNat_natCast, Int.toNat_natCast, e2, if_pos c5, e3]
theorem divided_l0 (X Y : Nat) (hX : (dtx X).size ≤ 50000) (hY : (dtx Y).size ≤ 50000) (hY0 : 0 < Y) (d i : Nat) (hd : i + d = (Lib.decDigits X).length) (Q : List UInt8) (hQ : Q.length = i) (dQ : Q.all isDig = true) (r : Nat) (hr : r < Y) (hinv : dnat ((Lib.decDigits X).take i) = Y * dnat Q + r) :
  Runs (fun k => R.metrolabref01_divided.l0 k (dtx X) (dtx Y) (bas Q) (dtx r) i) (dtx (X / Y), dtx (X % Y)) := by
 have hXl : (Lib.decDigits X).length ≤ 50000 := by rw [← dtx_size]; exact hX
 induction d generalizing i Q r with
 | zero =>
  have hi : i = (Lib.decDigits X).length := by omega
  have hq0 : Q ≠ [] := by
   intro h; rw [h] at hQ
   have := List.length_pos_iff.2 (dd_ne_nil X)
   simp at hQ; omega
  rw [hi, List.take_length, dnat_dd] at hinv
  have e1 : X / Y = dnat Q := by
   rw [hinv, Nat.mul_add_div hY0, Nat.div_eq_of_lt hr, Nat.add_zero]
  have e2 : X % Y = r := by
   rw [hinv, Nat.mul_add_mod, Nat.mod_eq_of_lt hr]
  rw [e1, e2]
  refine Runs.succ (Runs.bind (f := fun _ t171 => some (t171, dtx r)) (bare_f Q dQ hq0) (Runs.pure _)) fun k => ?_
  rw [R.metrolabref01_divided.l0, dtx_size, if_neg (by omega)]
 | succ d ih =>
  have hi : i < (Lib.decDigits X).length := by omega
  obtain ⟨a, ha, ea, ea2⟩ := digit_at (dd_all X) hi
  have hdc := getD_digit (dd_all X) hi ea2
  have hrs : (dtx r).size ≤ 50000 := Nat.le_trans (dtx_mono (Nat.le_of_lt hr)) hY
  have h10 : (dtx (10 * r + a)).size ≤ 50001 := dtx_snoc ha hrs
  have hsum : (10 * r + a) / Y ≤ 9 := by
   have : (10 * r + a) / Y < 10 := by rw [Nat.div_lt_iff_lt_mul hY0]; omega
   omega
  have hdm := Nat.div_add_mod (10 * r + a) Y
  have hml := Nat.mod_lt (10 * r + a) hY0
  have hinv2 := div_step (a := a) hinv hdm
  generalize (10 * r + a) / Y = q at *
  generalize (10 * r + a) % Y = m at *
  have hn := ih (i + 1) (by omega) (Q ++ [UInt8.ofNat (48 + q)]) (by rw [List.length_append, hQ, List.length_singleton]) (by rw [List.all_append, dQ, List.all_cons, isDig_of q (by omega)]; rfl) m hml (by
   rw [dnat_take_succ _ _ hi, ea2, hinv2, dnat_append, dig_of q (by omega), Nat.add_sub_cancel_left])
  have hl := divided_l1 (dtx X) Y Q i (dtx (X / Y), dtx (X % Y)) (by omega) (by omega) (by omega) m hml q 0 (by omega) (by rw [hdm]; omega) (by omega) (by rw [Nat.zero_add]; exact hn)
  rw [hdm] at hl
  exact Runs.succ (Runs.bind (f := fun k t172 => R.metrolabref01_divided.l1 k (dtx X) (dtx Y) (bas Q) t172 i 48) (bare_snoc r a ha) hl) fun k => l0_round (Lib.decDigits X) (dtx Y) (bas Q) r i a hXl hi hdc hrs k
theorem divided_f (X Y : Nat) (hX : (dtx X).size ≤ 50000) (hY : (dtx Y).size ≤ 50000) (hY0 : 0 < Y) : Runs (fun k => R.metrolabref01_divided.f k (dtx X) (dtx Y)) (dtx (X / Y), dtx (X % Y)) := by
 have h := divided_l0 X Y hX hY hY0 (Lib.decDigits X).length 0 (by omega) [] rfl rfl 0 hY0 (by rw [List.take_zero]; simp [dnat])
 have e : dtx 0 = ⟨#[48]⟩ := by rw [dtx_eq]; exact itx_zero
 rw [e] at h
 exact h
end Go.Proofs.YtkdpcgmnkifbbaaGreatDoor
end
section
namespace Go.Proofs.YtkdpcgmnkifbbaaGreatDoor
open Go.RowKit Go.Proofs.YtkdpcgmnkifbbaaGreatDoorW.PrintWords Go.Proofs.YtkdpcgmnkifbbaaGreatDoorW.PrintMore
theorem tdiv_back {u v q r : Int} (hv : v ≠ 0) (h : v * q + r = u) : Int.tdiv (u - r) v = q := by
 rw [show u - r = v * q by omega]; exact Int.mul_tdiv_cancel_left _ hv
theorem tdiv_back1 {u v q r : Int} (hv : v ≠ 0) (h : v * q + r = u) : Int.tdiv (u - (r + v)) v = q - 1 := by
 rw [show u - (r + v) = v * (q - 1) by rw [Int.mul_sub, Int.mul_one]; omega]; exact Int.mul_tdiv_cancel_left _ hv
theorem small_parted (u v : Int) (hv : v ≠ 0) (hu : u.natAbs < 1000000000000000000) (hv2 : v.natAbs < 1000000000000000000) (b : Bool) (hb : b = ((u.tmod v != 0) && ((decide (u.tmod v < 0)) != (decide (v < 0))))) :
  Runs (fun k => R.metrolabref01_Parted.j0 k u v (u.tmod v) b) (itx (u.fdiv v), itx (u.fmod v)) := by
 have h1 := Int.mul_tdiv_add_tmod u v
 have h2 : (u.tmod v).natAbs < v.natAbs := by rw [Int.natAbs_tmod]; exact Nat.mod_lt _ (by omega)
 have h3 : (u.tdiv v).natAbs ≤ u.natAbs := by rw [Int.natAbs_tdiv]; exact Nat.div_le_self _ _
 have hp := part_small (m := u) hv
 rw [← hb] at hp
 clear hb
 generalize u.tdiv v = q at *
 generalize u.tmod v = r at *
 cases b
 ·obtain ⟨e1, e2⟩ := hp.1 (by decide)
  rw [e1, e2]
  have hd := tdiv_back hv h1
  clear e1 e2 hp h1
  have w1 : wrap64 (u - r) = u - r := IntWalk.wrap64_in _ (by omega)
  have w2 : wrap64 q = q := IntWalk.wrap64_in _ (by omega)
  have o1 := ref_of q (by omega) (by omega)
  have o2 := ref_of r (by omega) (by omega)
  refine Runs.succ (f := fun k => (R.metrolabref01_Of.f k q).bind fun t183 => ((R.metrolabref01_Of.f k r).bind fun t184 => (some (t183, t184)))) (Runs.bind o1 (Runs.bind o2 (Runs.pure _))) fun k => ?_
  rw [R.metrolabref01_Parted.j0, if_neg (by decide), if_neg hv, w1, hd, w2]
 ·obtain ⟨e1, e2⟩ := hp.2 rfl
  rw [e1, e2]
  have hd := tdiv_back1 hv h1
  clear e1 e2 hp h1
  have w0 : wrap64 (r + v) = r + v := IntWalk.wrap64_in _ (by omega)
  have w1 : wrap64 (u - (r + v)) = u - (r + v) := IntWalk.wrap64_in _ (by omega)
  have w2 : wrap64 (q - 1) = q - 1 := IntWalk.wrap64_in _ (by omega)
  have o1 := ref_of (q - 1) (by omega) (by omega)
  have o2 := ref_of (r + v) (by omega) (by omega)
  refine Runs.succ (f := fun k => (R.metrolabref01_Of.f k (q - 1)).bind fun t183 => ((R.metrolabref01_Of.f k (r + v)).bind fun t184 => (some (t183, t184)))) (Runs.bind o1 (Runs.bind o2 (Runs.pure _))) fun k => ?_
  rw [R.metrolabref01_Parted.j0, if_pos rfl, if_neg hv, w0, w1, hd, w2]
theorem dtx_pred (q : Int) {n : Nat} (h : (dtx q.natAbs).size ≤ n) : (dtx (q - 1).natAbs).size ≤ n + 1 := by
 have h1 := lt_of_size h
 refine size_of_lt ?_ (by omega)
 rw [Nat.pow_succ]
 generalize 10 ^ n = p at *
 omega
theorem long_parted (u v : Int) (hu : (dtx u.natAbs).size ≤ 40000) (hv2 : (dtx v.natAbs).size ≤ 40000) (q : Int) (hq : (dtx q.natAbs).size ≤ 40000) (b : Bool) (hd : u.fdiv v = if b then q - 1 else q) :
  Runs (fun k => R.metrolabref01_Parted.j1 k (itx u) (itx v) (itx q) b) (itx (u.fdiv v), itx (u.fmod v)) := by
 have hm : u - u.fdiv v * v = u.fmod v := by rw [Int.fmod_def, Int.mul_comm]
 cases b
 ·have hd2 : u.fdiv v = q := by simpa using hd
  rw [hd2] at hm ⊢
  have ht := ref_times q v (by omega) (by omega)
  have hs := dtx_mul hq hv2
  rw [← Int.natAbs_mul] at hs
  have hmi := ref_minus u (q * v) (by omega) (by omega)
  rw [hm] at hmi
  refine Runs.succ (f := fun k => (R.metrolabref01_Times.f k (itx q) (itx v)).bind fun t197 => ((R.metrolabref01_Minus.f k (itx u) t197).bind fun t198 => (some (itx q, t198)))) (Runs.bind ht (Runs.bind hmi (Runs.pure _))) fun k => ?_
  rw [R.metrolabref01_Parted.j1, if_neg (by decide)]
 ·have hd2 : u.fdiv v = q - 1 := by simpa using hd
  rw [hd2] at hm ⊢
  have hq1 := dtx_pred q hq
  have h1s : (dtx (1 : Int).natAbs).size ≤ 90000 := by rw [show (1 : Int).natAbs = 1 from rfl, dtx_size, dd_small (by decide)]; decide
  have hm1 := ref_minus q 1 (by omega) h1s
  have ht := ref_times (q - 1) v (by omega) (by omega)
  have hs := dtx_mul hq1 hv2
  rw [← Int.natAbs_mul] at hs
  have hmi := ref_minus u ((q - 1) * v) (by omega) (by omega)
  rw [hm] at hmi
  refine Runs.succ (f := fun k => (R.metrolabref01_Minus.f k (itx q) (itx 1)).bind fun t194 => ((R.metrolabref01_Times.f k t194 (itx v)).bind fun t195 => ((R.metrolabref01_Minus.f k (itx u) t195).bind fun t196 => (some (t194, t196))))) (Runs.bind hm1 (Runs.bind ht (Runs.bind hmi (Runs.pure _)))) fun k => ?_
  rw [R.metrolabref01_Parted.j1, if_pos rfl, one_text]
theorem dtx_zero_list (m : Nat) : ((dtx m).toList = ([48] : List UInt8)) ↔ m = 0 := by
 rw [Lib.toList_data, dtx_list]; exact dd_zero_iff m
theorem ref_parted (u v : Int) (hv : v ≠ 0) (hu : (dtx u.natAbs).size ≤ 40000) (hv2 : (dtx v.natAbs).size ≤ 40000) :
  Runs (fun k => R.metrolabref01_Parted.f k (itx u) (itx v)) (itx (u.fdiv v), itx (u.fmod v)) := by
 unfold R.metrolabref01_Parted.f
 refine Runs.bind (brief_f u v) ?_
 by_cases h : (dtx u.natAbs).size ≤ 18 ∧ (dtx v.natAbs).size ≤ 18
 ·rw [if_pos h]
  simp only [if_true, if_neg hv]
  have hs1 := dtx_small h.1
  have hs2 := dtx_small h.2
  by_cases hr : u.tmod v = 0
  ·simp only [if_pos hr]
   exact small_parted u v hv hs1 hs2 false (by rw [hr]; rfl)
  ·simp only [if_neg hr]
   exact small_parted u v hv hs1 hs2 _ (by rw [show (u.tmod v != 0) = true by simpa using hr]; rfl)
 ·rw [if_neg h]
  simp only [Bool.false_eq_true, if_false, size_itx, below_itx, Option.bind_some]
  have hvn : 0 < v.natAbs := by omega
  refine Runs.bind (divided_f u.natAbs v.natAbs (by omega) (by omega) hvn) ?_
  have hq : (dtx (u.natAbs / v.natAbs)).size ≤ 40000 := Nat.le_trans (dtx_mono (Nat.div_le_self _ _)) hu
  have hsg : ∀ s, (dtx (sg s (u.natAbs / v.natAbs)).natAbs).size ≤ 40000 := fun s => by rw [sg_abs]; exact hq
  simp only [signed_f _ _ (Nat.le_trans hq (by decide)), Option.bind_some, dtx_zero_list]
  by_cases hr : u.natAbs % v.natAbs = 0
  ·simp only [if_pos hr]
   have hp := (part_plain' u.natAbs v.natAbs (decide (u < 0)) (decide (v < 0)) hvn (.inl hr)).1
   rw [sg_val, sg_val] at hp
   exact long_parted u v hu hv2 _ (hsg _) false (by rw [hp]; rfl)
  ·simp only [if_neg hr]
   by_cases hs : decide (u < 0) = decide (v < 0)
   ·have hp := (part_plain' u.natAbs v.natAbs (decide (u < 0)) (decide (v < 0)) hvn (.inr hs)).1
    rw [sg_val, sg_val] at hp
    refine long_parted u v hu hv2 _ (hsg _) _ ?_
    rw [hp, hs]; simp
   ·have hp := (part_turn' u.natAbs v.natAbs (decide (u < 0)) (decide (v < 0)) hvn (by omega) hs).1
    rw [sg_val, sg_val] at hp
    refine long_parted u v hu hv2 _ (hsg _) _ ?_
    have hne : (decide (u < 0) != decide (v < 0)) = true := by rw [bne_iff_ne]; exact hs
    rw [hp, hne]
    unfold sg
    simp
    omega
theorem gcd_step (a b : Nat) : Nat.gcd a b = Nat.gcd b (a % b) := by rw [Nat.gcd_comm, Nat.gcd_rec, Nat.gcd_comm]
theorem shared_l1 (b : Nat) : ∀ a : Nat, a < 1000000000000000000 → b < 1000000000000000000 → Runs (fun k => R.metrolabref01_Shared.l1 k a b) (itx (Nat.gcd a b : Nat)) := by
 induction b using Nat.strongRecOn with
 | _ b ih =>
  intro a ha hb
  by_cases h0 : b = 0
  ·subst h0
   rw [Nat.gcd_zero_right]
   refine Runs.succ (Runs.bind (f := fun _ t206 => some t206) (ref_of a (by omega) (by omega)) (Runs.pure _)) fun k => ?_
   rw [R.metrolabref01_Shared.l1, if_neg (by decide)]
  ·have hlt := Nat.mod_lt a (show b > 0 by omega)
   have hn := ih (a % b) hlt b hb (by omega)
   rw [gcd_step a b]
   refine Runs.succ hn fun k => ?_
   rw [R.metrolabref01_Shared.l1, if_pos (by omega), if_neg (by omega)]; rfl
theorem fmod_nat (a b : Nat) : Int.fmod (a : Int) (b : Int) = ((a % b : Nat) : Int) := by
 rw [Int.fmod_eq_emod_of_nonneg _ (Int.natCast_nonneg b)]; rfl
theorem shared_l0 (b : Nat) : ∀ a : Nat, (dtx a).size ≤ 40000 → (dtx b).size ≤ 40000 → Runs (fun k => R.metrolabref01_Shared.l0 k (itx a) (itx b)) (itx (Nat.gcd a b : Nat)) := by
 induction b using Nat.strongRecOn with
 | _ b ih =>
  intro a ha hb
  by_cases h0 : b = 0
  ·subst h0
   rw [Nat.gcd_zero_right]
   have hz : (itx ((0 : Nat) : Int)).toList = ([48] : List UInt8) := (itx_zero_list _).2 rfl
   refine Runs.succ (Runs.pure _) fun k => ?_
   rw [R.metrolabref01_Shared.l0, if_pos hz]
  ·have hlt := Nat.mod_lt a (show b > 0 by omega)
   have hnz : ¬ ((itx (b : Int)).toList = ([48] : List UInt8)) := fun h => by have := (itx_zero_list _).1 h; omega
   refine Runs.succ (f := fun k => (R.metrolabref01_brief.f k (itx a) (itx b)).bind fun bt203 => (if bt203.2.2 = true then (R.metrolabref01_Shared.l1 k bt203.1 bt203.2.1) else ((R.metrolabref01_Parted.f k (itx a) (itx b)).bind fun bt207 => (R.metrolabref01_Shared.l0 k (itx b) bt207.2)))) ?_ fun k => ?_
   ·refine Runs.bind (brief_f a b) ?_
    by_cases h : (dtx (a : Int).natAbs).size ≤ 18 ∧ (dtx (b : Int).natAbs).size ≤ 18
    ·rw [if_pos h]
     simp only [if_true]
     exact shared_l1 b a (dtx_small h.1) (dtx_small h.2)
    ·rw [if_neg h]
     simp only [Bool.false_eq_true, if_false]
     have hp := ref_parted (a : Int) (b : Int) (by omega) ha hb
     rw [fmod_nat] at hp
     have hn := ih (a % b) hlt b hb (Nat.le_trans (dtx_mono (Nat.le_of_lt hlt)) hb)
     rw [gcd_step a b]
     exact Runs.bind hp hn
   ·rw [R.metrolabref01_Shared.l0, if_neg hnz]
theorem ref_shared (u v : Int) (hu : (dtx u.natAbs).size ≤ 40000) (hv : (dtx v.natAbs).size ≤ 40000) : Runs (fun k => R.metrolabref01_Shared.f k (itx u) (itx v)) (itx (gcdv u v)) := by
 refine Runs.congr (shared_l0 v.natAbs u.natAbs hu hv) fun k => ?_
 unfold R.metrolabref01_Shared.f
 rw [size_itx, size_itx, Option.bind_some, signed_f _ _ (by omega), Option.bind_some, Option.bind_some, signed_f _ _ (by omega), Option.bind_some]
 rfl
end Go.Proofs.YtkdpcgmnkifbbaaGreatDoor
end
