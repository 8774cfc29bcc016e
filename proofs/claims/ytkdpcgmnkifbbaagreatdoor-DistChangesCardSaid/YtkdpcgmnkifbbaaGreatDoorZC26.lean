/- Joined by a program of this session out of its texts, with only what the last theorem needs: Dc Ri Dd. No conditions but those stated. -/
import Derived.Test.YtkdpcgmnkifbbaaGreatDoorZC25
import Derived.Test.YtkdpcgmnkifbbaaGreatDoorZC24
set_option linter.unusedVariables false
set_option linter.unusedSimpArgs false
namespace Go.Proofs.YtkdpcgmnkifbbaaGreatDoorW.PrintMore
end Go.Proofs.YtkdpcgmnkifbbaaGreatDoorW.PrintMore
namespace Go.Proofs.YtkdpcgmnkifbbaaGreatDoorW.PrintWords
end Go.Proofs.YtkdpcgmnkifbbaaGreatDoorW.PrintWords
section
namespace Go.Proofs.YtkdpcgmnkifbbaaGreatDoor
open Go.RowKit Go.Proofs.YtkdpcgmnkifbbaaGreatDoorW.PrintWords Go.Proofs.YtkdpcgmnkifbbaaGreatDoorW.PrintMore
def sumf (f : Int × ByteArray → Int) (l : List (Int × ByteArray)) : Int := l.foldl (fun s x => s + f x) 0
theorem sumf_snoc (f : Int × ByteArray → Int) (l : List (Int × ByteArray)) (x : Int × ByteArray) : sumf f (l ++ [x]) = sumf f l + f x := by simp [sumf]
theorem sumf_take (f : Int × ByteArray → Int) (l : List (Int × ByteArray)) (i : Nat) (h : i < l.length) : sumf f (l.take (i + 1)) = sumf f (l.take i) + f l[i] := by
 rw [← sumf_snoc, List.take_append_getElem h]
def fW (x : Int × ByteArray) : Int := ival x.2
def fP (lo hi : Int) (x : Int × ByteArray) : Int := pick lo hi x.1 (ival x.2)
def fM (pw : Nat) (x : Int × ByteArray) : Int := ival x.2 * x.1 ^ pw
set_option maxRecDepth 100000 in
set_option maxHeartbeats 4000000 in
theorem sum_W (A0 : Option Addr) (c0 : Nat) (l : List (Int × ByteArray)) (w : World) (hr0 : Kd.C KP w A0 l.length l) (hc0 : l.length ≤ c0) (hck : ∀ x ∈ l, chk x.2 = 0) (hn : l.length ≤ 4096)
  (hf : ∀ i, i ≤ l.length → fits (sumf fW (l.take i))) (hg : ∀ x ∈ l, fits (fW x)) (ht : Tabs w) :
  Calls Tryz.prog 40 #[.slice A0 l.length c0, .func (.func 41) #[] #[]] w (TwoPost w (itx (sumf fW l), 0)) := by
 have HR0 := Lib.hid hr0; clear hr0
 have HC0 := Lib.hid hc0; clear hc0
 have HCK := Lib.hid hck; clear hck
 have HN := Lib.hid hn; clear hn
 have HF := Lib.hid hf; clear hf
 have HG := Lib.hid hg; clear hg
 have HT := Lib.hid ht; clear ht
 go_enter Tryz.func40, Tryz.ntmps40
 go_wp2
 go_loopg [6, 13] l.length (fun g v6 v13 wr => ∃ (i : Nat) (s : Int), v6 = .string (itx s) ∧ v13 = .int .i64 (i : Int) ∧ g + i = l.length ∧ Hid (s = sumf fW (l.take i)) ∧ Hid (Below w.heap.size w wr))
 case atStart => exact ⟨0, 0, by rw [itx_zero], rfl, by omega, Lib.hid rfl, Lib.hid (Below.refl _ _)⟩
 case round =>
  obtain ⟨i, s, rfl, rfl, hg, HS, HB⟩ := hrel
  rcases Nat.eq_zero_or_pos gk with hg0 | hg0
  ·have hc : ((i : Int) < (l.length : Int)) = False := eq_false (by omega)
   have hc2 : (i < l.length) = False := eq_false (by omega)
   have hs := HS.out
   rw [List.take_of_length_le (by omega)] at hs
   have HS1 := Lib.hid hs; clear hs
   clear hg hg0
   go_wp2
   go_ret2
   exact ⟨by rw [HS1.out]; rfl, HB.out⟩
  ·have hil : i < l.length := by omega
   have hc : ((i : Int) < (l.length : Int)) = True := eq_true (by omega)
   have hi0 : ((0 : Int) ≤ (i : Int)) = True := eq_true (by omega)
   obtain ⟨ad, ead, hx0, hx1⟩ := at_KP HR0.out i hil
   cases ead
   replace hx0 := (HB.out.cell (World.block_lt_of_cell? w _ hx0)).trans hx0
   replace hx1 := (HB.out.cell (World.block_lt_of_cell? w _ hx1)).trans hx1
   have f0 := HF.out i (by omega)
   have f1 := HF.out (i + 1) hil
   have hst := sumf_take fW l i hil
   rw [hst] at f1
   have f2 := HG.out _ (List.getElem_mem hil)
   have HCK2 := Lib.hid (HCK.out _ (List.getElem_mem hil))
   have HST := Lib.hid hst; clear hst
   generalize l[i] = x at hx0 hx1 f1 f2 HCK2 HST
   obtain ⟨n, a⟩ := x
   simp only at hx0 hx1
   rw [← HS.out] at f0 f1 HST
   obtain ⟨p, hp⟩ : ∃ p, p = fW (n, a) := ⟨_, rfl⟩
   rw [← hp] at f1 f2 HST
   have HP := Lib.hid hp; clear hp
   have hadd : L.whole_Add.f (itx s) (itx p) = some (itx (s + p), 0) := by
    rw [add_f _ _ (Nat.le_trans (chk_size (chk_fits f0)) (by decide)) (Nat.le_trans (chk_size (chk_fits f2)) (by decide)), two_go (chk_fits f0) (chk_fits f2), ival_itx, ival_itx, kept_fits f1]
   have HADD := Lib.hid hadd; clear hadd
   have hb5 : Below w.heap.size w (wr.alloc (.cells #[.int .i64 n, .string a] 60)) := HB.out.alloc HB.out.size _
   have c50 := lit0 wr (.int .i64 n) (.string a) 60
   have c51 := lit1 wr (.int .i64 n) (.string a) 60
   have HB5 := Lib.hid hb5; clear hb5
   have HGK := Lib.hid hg; clear hg
   have HIL := Lib.hid hil
   clear f0 f1 f2 hg0 hil
   generalize hw5 : wr.alloc (.cells #[.int .i64 n, .string a] 60) = w5 at HB5 c50 c51
   go_wp2_with fail
   clear hw5
   have hcall := weight_calls n a w5
   have ea : itx p = a := by rw [HP.out]; exact (chk_zero HCK2.out).1.symm
   rw [ea] at HADD
   clear ea
   refine hcall.mono ?_
   rintro e w6 ⟨rfl, hb6⟩
   have HB6 := Lib.hid (below_then HB5.out HB5.out.size hb6); clear hb6 hcall
   go_wp2_with fail
   refine (L.whole_Add.calls (itx s) a _ _ w6 HADD.out (Aside0.mk (HT.out.below HB6.out))).mono ?_
   rintro e w7 ⟨rfl, hb7⟩
   have HB7 := Lib.hid (below_then HB6.out HB6.out.size hb7); clear hb7
   go_wp2
   obtain ⟨g', rfl⟩ : ∃ g', gk = g' + 1 := ⟨gk - 1, by have := HGK.out; have := HIL.out; omega⟩
   go_roundg g'
   case measure => omega
   case rel => exact ⟨i + 1, s + p, rfl, by have := HN.out; have := HIL.out; rw [IntWalk.wrap64_in ((i : Int) + 1) (by omega)]; rfl, by have := HGK.out; omega, Lib.hid HST.out.symm, HB7⟩
set_option maxRecDepth 100000 in
set_option maxHeartbeats 4000000 in
theorem sum_P (c : Nat) (lo hi : Int) (A0 : Option Addr) (c0 : Nat) (l : List (Int × ByteArray)) (w : World) (hr0 : Kd.C KP w A0 l.length l) (hc0 : l.length ≤ c0) (hck : ∀ x ∈ l, chk x.2 = 0) (hn : l.length ≤ 4096)
  (hf : ∀ i, i ≤ l.length → fits (sumf (fP lo hi) (l.take i))) (hg : ∀ x ∈ l, fits ((fP lo hi) x)) (k0 : w.cell? ⟨c, 0, none⟩ = some (.int .i64 lo)) (k1 : w.cell? ⟨c, 1, none⟩ = some (.int .i64 hi)) (ht : Tabs w) :
  Calls Tryz.prog 40 #[.slice A0 l.length c0, .func (.func 34) #[] #[.pointer (some ⟨c, 0, none⟩)]] w (TwoPost w (itx (sumf (fP lo hi) l), 0)) := by
 have HR0 := Lib.hid hr0; clear hr0
 have HC0 := Lib.hid hc0; clear hc0
 have HCK := Lib.hid hck; clear hck
 have HN := Lib.hid hn; clear hn
 have HF := Lib.hid hf; clear hf
 have HG := Lib.hid hg; clear hg
 have HT := Lib.hid ht; clear ht
 have K0 := Lib.hid k0; clear k0
 have K1 := Lib.hid k1; clear k1
 go_enter Tryz.func40, Tryz.ntmps40
 go_wp2
 go_loopg [6, 13] l.length (fun g v6 v13 wr => ∃ (i : Nat) (s : Int), v6 = .string (itx s) ∧ v13 = .int .i64 (i : Int) ∧ g + i = l.length ∧ Hid (s = sumf (fP lo hi) (l.take i)) ∧ Hid (Below w.heap.size w wr))
 case atStart => exact ⟨0, 0, by rw [itx_zero], rfl, by omega, Lib.hid rfl, Lib.hid (Below.refl _ _)⟩
 case round =>
  obtain ⟨i, s, rfl, rfl, hg, HS, HB⟩ := hrel
  rcases Nat.eq_zero_or_pos gk with hg0 | hg0
  ·have hc : ((i : Int) < (l.length : Int)) = False := eq_false (by omega)
   have hc2 : (i < l.length) = False := eq_false (by omega)
   have hs := HS.out
   rw [List.take_of_length_le (by omega)] at hs
   have HS1 := Lib.hid hs; clear hs
   clear hg hg0
   go_wp2
   go_ret2
   exact ⟨by rw [HS1.out]; rfl, HB.out⟩
  ·have hil : i < l.length := by omega
   have hc : ((i : Int) < (l.length : Int)) = True := eq_true (by omega)
   have hi0 : ((0 : Int) ≤ (i : Int)) = True := eq_true (by omega)
   obtain ⟨ad, ead, hx0, hx1⟩ := at_KP HR0.out i hil
   cases ead
   replace hx0 := (HB.out.cell (World.block_lt_of_cell? w _ hx0)).trans hx0
   replace hx1 := (HB.out.cell (World.block_lt_of_cell? w _ hx1)).trans hx1
   have f0 := HF.out i (by omega)
   have f1 := HF.out (i + 1) hil
   have hst := sumf_take (fP lo hi) l i hil
   rw [hst] at f1
   have f2 := HG.out _ (List.getElem_mem hil)
   have HCK2 := Lib.hid (HCK.out _ (List.getElem_mem hil))
   have HST := Lib.hid hst; clear hst
   generalize l[i] = x at hx0 hx1 f1 f2 HCK2 HST
   obtain ⟨n, a⟩ := x
   simp only at hx0 hx1
   rw [← HS.out] at f0 f1 HST
   obtain ⟨p, hp⟩ : ∃ p, p = (fP lo hi) (n, a) := ⟨_, rfl⟩
   rw [← hp] at f1 f2 HST
   have HP := Lib.hid hp; clear hp
   have hadd : L.whole_Add.f (itx s) (itx p) = some (itx (s + p), 0) := by
    rw [add_f _ _ (Nat.le_trans (chk_size (chk_fits f0)) (by decide)) (Nat.le_trans (chk_size (chk_fits f2)) (by decide)), two_go (chk_fits f0) (chk_fits f2), ival_itx, ival_itx, kept_fits f1]
   have HADD := Lib.hid hadd; clear hadd
   have hb5 : Below w.heap.size w (wr.alloc (.cells #[.int .i64 n, .string a] 60)) := HB.out.alloc HB.out.size _
   have c50 := lit0 wr (.int .i64 n) (.string a) 60
   have c51 := lit1 wr (.int .i64 n) (.string a) 60
   have HB5 := Lib.hid hb5; clear hb5
   have HGK := Lib.hid hg; clear hg
   have HIL := Lib.hid hil
   clear f0 f1 f2 hg0 hil
   generalize hw5 : wr.alloc (.cells #[.int .i64 n, .string a] 60) = w5 at HB5 c50 c51
   go_wp2_with fail
   clear hw5
   have hcall := pick_calls c lo hi n a w5 (HB5.out.cell (World.block_lt_of_cell? _ _ K0.out) |>.trans K0.out) (HB5.out.cell (World.block_lt_of_cell? _ _ K1.out) |>.trans K1.out) HCK2.out
   rw [show itx (pick lo hi n (ival a)) = itx p from by rw [HP.out]; rfl] at hcall
   refine hcall.mono ?_
   rintro e w6 ⟨rfl, hb6⟩
   have HB6 := Lib.hid (below_then HB5.out HB5.out.size hb6); clear hb6 hcall
   go_wp2_with fail
   refine (L.whole_Add.calls (itx s) (itx p) _ _ w6 HADD.out (Aside0.mk (HT.out.below HB6.out))).mono ?_
   rintro e w7 ⟨rfl, hb7⟩
   have HB7 := Lib.hid (below_then HB6.out HB6.out.size hb7); clear hb7
   go_wp2
   obtain ⟨g', rfl⟩ : ∃ g', gk = g' + 1 := ⟨gk - 1, by have := HGK.out; have := HIL.out; omega⟩
   go_roundg g'
   case measure => omega
   case rel => exact ⟨i + 1, s + p, rfl, by have := HN.out; have := HIL.out; rw [IntWalk.wrap64_in ((i : Int) + 1) (by omega)]; rfl, by have := HGK.out; omega, Lib.hid HST.out.symm, HB7⟩
set_option maxRecDepth 100000 in
set_option maxHeartbeats 4000000 in
theorem sum_M (c pw : Nat) (A0 : Option Addr) (c0 : Nat) (l : List (Int × ByteArray)) (w : World) (hr0 : Kd.C KP w A0 l.length l) (hc0 : l.length ≤ c0) (hck : ∀ x ∈ l, chk x.2 = 0) (hn : l.length ≤ 4096)
  (hf : ∀ i, i ≤ l.length → fits (sumf (fM pw) (l.take i))) (hg : ∀ x ∈ l, fits ((fM pw) x)) (k0 : w.cell? ⟨c, 0, none⟩ = some (.int .i64 pw)) (hpw : pw ≤ 1000) (hval : ∀ x ∈ l, -9223372036854775808 < x.1 ∧ x.1 < 9223372036854775807) (hpf : ∀ x ∈ l, ∀ i, i ≤ pw → fits (ival x.2 * x.1 ^ i)) (ht : Tabs w) :
  Calls Tryz.prog 40 #[.slice A0 l.length c0, .func (.func 77) #[] #[.pointer (some ⟨c, 0, none⟩)]] w (TwoPost w (itx (sumf (fM pw) l), 0)) := by
 have HR0 := Lib.hid hr0; clear hr0
 have HC0 := Lib.hid hc0; clear hc0
 have HCK := Lib.hid hck; clear hck
 have HN := Lib.hid hn; clear hn
 have HF := Lib.hid hf; clear hf
 have HG := Lib.hid hg; clear hg
 have HT := Lib.hid ht; clear ht
 have K0 := Lib.hid k0; clear k0
 have HPW := Lib.hid hpw; clear hpw
 have HVAL := Lib.hid hval; clear hval
 have HPF := Lib.hid hpf; clear hpf
 go_enter Tryz.func40, Tryz.ntmps40
 go_wp2
 go_loopg [6, 13] l.length (fun g v6 v13 wr => ∃ (i : Nat) (s : Int), v6 = .string (itx s) ∧ v13 = .int .i64 (i : Int) ∧ g + i = l.length ∧ Hid (s = sumf (fM pw) (l.take i)) ∧ Hid (Below w.heap.size w wr))
 case atStart => exact ⟨0, 0, by rw [itx_zero], rfl, by omega, Lib.hid rfl, Lib.hid (Below.refl _ _)⟩
 case round =>
  obtain ⟨i, s, rfl, rfl, hg, HS, HB⟩ := hrel
  rcases Nat.eq_zero_or_pos gk with hg0 | hg0
  ·have hc : ((i : Int) < (l.length : Int)) = False := eq_false (by omega)
   have hc2 : (i < l.length) = False := eq_false (by omega)
   have hs := HS.out
   rw [List.take_of_length_le (by omega)] at hs
   have HS1 := Lib.hid hs; clear hs
   clear hg hg0
   go_wp2
   go_ret2
   exact ⟨by rw [HS1.out]; rfl, HB.out⟩
  ·have hil : i < l.length := by omega
   have hc : ((i : Int) < (l.length : Int)) = True := eq_true (by omega)
   have hi0 : ((0 : Int) ≤ (i : Int)) = True := eq_true (by omega)
   obtain ⟨ad, ead, hx0, hx1⟩ := at_KP HR0.out i hil
   cases ead
   replace hx0 := (HB.out.cell (World.block_lt_of_cell? w _ hx0)).trans hx0
   replace hx1 := (HB.out.cell (World.block_lt_of_cell? w _ hx1)).trans hx1
   have f0 := HF.out i (by omega)
   have f1 := HF.out (i + 1) hil
   have hst := sumf_take (fM pw) l i hil
   rw [hst] at f1
   have f2 := HG.out _ (List.getElem_mem hil)
   have HCK2 := Lib.hid (HCK.out _ (List.getElem_mem hil))
   have HVX := Lib.hid (HVAL.out _ (List.getElem_mem hil))
   have HPX := Lib.hid (HPF.out _ (List.getElem_mem hil))
   have HST := Lib.hid hst; clear hst
   generalize l[i] = x at hx0 hx1 f1 f2 HCK2 HST HVX HPX
   obtain ⟨n, a⟩ := x
   simp only at hx0 hx1
   rw [← HS.out] at f0 f1 HST
   obtain ⟨p, hp⟩ : ∃ p, p = (fM pw) (n, a) := ⟨_, rfl⟩
   rw [← hp] at f1 f2 HST
   have HP := Lib.hid hp; clear hp
   have hadd : L.whole_Add.f (itx s) (itx p) = some (itx (s + p), 0) := by
    rw [add_f _ _ (Nat.le_trans (chk_size (chk_fits f0)) (by decide)) (Nat.le_trans (chk_size (chk_fits f2)) (by decide)), two_go (chk_fits f0) (chk_fits f2), ival_itx, ival_itx, kept_fits f1]
   have HADD := Lib.hid hadd; clear hadd
   have hb5 : Below w.heap.size w (wr.alloc (.cells #[.int .i64 n, .string a] 60)) := HB.out.alloc HB.out.size _
   have c50 := lit0 wr (.int .i64 n) (.string a) 60
   have c51 := lit1 wr (.int .i64 n) (.string a) 60
   have HB5 := Lib.hid hb5; clear hb5
   have HGK := Lib.hid hg; clear hg
   have HIL := Lib.hid hil
   clear f0 f1 f2 hg0 hil
   generalize hw5 : wr.alloc (.cells #[.int .i64 n, .string a] 60) = w5 at HB5 c50 c51
   go_wp2_with fail
   clear hw5
   have hcall := mom_calls c pw n a w5 (HB5.out.cell (World.block_lt_of_cell? _ _ K0.out) |>.trans K0.out) HPW.out HCK2.out HVX.out.1 HVX.out.2 HPX.out (HT.out.below HB5.out)
   rw [show itx (ival a * n ^ pw) = itx p from by rw [HP.out]; rfl] at hcall
   refine hcall.mono ?_
   rintro e w6 ⟨rfl, hb6⟩
   have HB6 := Lib.hid (below_then HB5.out HB5.out.size hb6); clear hb6 hcall
   go_wp2_with fail
   refine (L.whole_Add.calls (itx s) (itx p) _ _ w6 HADD.out (Aside0.mk (HT.out.below HB6.out))).mono ?_
   rintro e w7 ⟨rfl, hb7⟩
   have HB7 := Lib.hid (below_then HB6.out HB6.out.size hb7); clear hb7
   go_wp2
   obtain ⟨g', rfl⟩ : ∃ g', gk = g' + 1 := ⟨gk - 1, by have := HGK.out; have := HIL.out; omega⟩
   go_roundg g'
   case measure => omega
   case rel => exact ⟨i + 1, s + p, rfl, by have := HN.out; have := HIL.out; rw [IntWalk.wrap64_in ((i : Int) + 1) (by omega)]; rfl, by have := HGK.out; omega, Lib.hid HST.out.symm, HB7⟩
end Go.Proofs.YtkdpcgmnkifbbaaGreatDoor
end
section
namespace Go.Proofs.YtkdpcgmnkifbbaaGreatDoor
open Go.RowKit Go.Proofs.YtkdpcgmnkifbbaaGreatDoorW.PrintWords Go.Proofs.YtkdpcgmnkifbbaaGreatDoorW.PrintMore
theorem dd_no47 (m : Nat) : (47 : UInt8) ∉ Lib.decDigits m := by
 intro h
 have := dd_all m
 rw [List.all_eq_true] at this
 exact absurd (this _ h) (by decide)
theorem itx_no47 (v : Int) : (47 : UInt8) ∉ (itx v).data.toList := by
 rw [itx_list]
 unfold Lib.itoa
 split
 ·rw [List.mem_cons, not_or]; exact ⟨by decide, dd_no47 _⟩
 ·exact dd_no47 _
theorem rtx_list (q : Rat) : (rtx q).data.toList = if q.den = 1 then (itx q.num).data.toList else (itx q.num).data.toList ++ 47 :: (itx (q.den : Int)).data.toList := by
 unfold rtx
 split
 ·rfl
 ·rw [ByteArray.data_append, ByteArray.data_append, Array.toList_append, Array.toList_append, List.append_assoc]; rfl
theorem bas_of (a : ByteArray) : bas a.data.toList = a := Lib.mk_data a
theorem cutF_rtx (q : Rat) : cutF (rtx q) = (itx q.num, itx (q.den : Int), !decide (q.den = 1)) := by
 by_cases h : q.den = 1
 ·unfold cutF
  rw [rtx_list, if_pos h, cutL_no (itx_no47 _)]
  unfold rtx
  rw [if_pos h, h, one_text]; rfl
 ·unfold cutF
  rw [rtx_list, if_neg h, cutL_of (itx_no47 _)]
  simp only [bas_of, decide_eq_false h, Bool.not_false]
theorem rnum_rtx (q : Rat) : rnum (rtx q) = q.num := by unfold rnum; rw [cutF_rtx, ival_itx]
theorem rden_rtx (q : Rat) : rden (rtx q) = q.den := by unfold rden; rw [cutF_rtx, ival_itx]
def rval (a : ByteArray) : Rat := Rat.divInt (rnum a) (rden a)
theorem gcdv_num (q : Rat) : gcdv q.num q.den = 1 := by
 unfold gcdv
 have := q.reduced
 unfold Nat.Coprime at this
 rw [Int.natAbs_natCast, this]; rfl
theorem rchk_rtx (q : Rat) : rchk (rtx q) = if fits q.num ∧ fits (q.den : Int) then 0 else 11 := by
 unfold rchk
 rw [cutF_rtx]
 simp only [chk_itx, ival_itx, gcdv_num]
 have := q.den_nz
 have h3 : q.den ≠ 1 → (1 : Int) < q.den := fun h => by omega
 by_cases h1 : fits q.num <;> by_cases h2 : fits (q.den : Int) <;> by_cases h : q.den = 1 <;> first | (simp [h1, h2, h, h3]; done) | (rw [h] at h2 ⊢; simp at h2; simp [h1, h2])
theorem divInt_low {u v : Int} (hv : 0 < v) (h : gcdv u v = 1) : (Rat.divInt u v).num = u ∧ ((Rat.divInt u v).den : Int) = v := by
 constructor
 ·rw [Rat.num_divInt, gcd_eq, h, Int.sign_eq_one_of_pos hv, Int.one_mul, Int.ediv_one]
 ·rw [Rat.den_divInt, if_neg (by omega), Int.natCast_ediv, gcd_eq, h, Int.ediv_one]; omega
theorem divInt_le {u v : Int} (hv : v ≠ 0) : (Rat.divInt u v).num.natAbs ≤ u.natAbs ∧ (Rat.divInt u v).den ≤ v.natAbs := by
 constructor
 ·rw [← low_num hv]; exact quo_le _ _ (gdiv_ne hv)
 ·have := quo_le v (gdiv u v) (gdiv_ne hv)
  rw [low_den hv] at this; omega
end Go.Proofs.YtkdpcgmnkifbbaaGreatDoor
end
section
namespace Go.Proofs.YtkdpcgmnkifbbaaGreatDoor
open Go.RowKit Go.Proofs.YtkdpcgmnkifbbaaGreatDoorW.PrintWords Go.Proofs.YtkdpcgmnkifbbaaGreatDoorW.PrintMore
structure Gd (l : List (Int × ByteArray)) : Prop where
 ne : l ≠ []
 len : l.length ≤ 4096
 ck : ∀ x ∈ l, chk x.2 = 0
 pos : ∀ x ∈ l, 0 < ival x.2
 val : ∀ x ∈ l, -1048576 ≤ x.1 ∧ x.1 ≤ 1048576
 lim : ∀ x ∈ l, (ival x.2).natAbs < 10 ^ 60
theorem dckl_all : ∀ {l : List (Int × ByteArray)} {p : Option Int}, dckl p l = 0 → ∀ x ∈ l, chk x.2 = 0 ∧ 0 < ival x.2 ∧ (-1048576 ≤ x.1 ∧ x.1 ≤ 1048576)
 | [], _, _, x, hx => by simp at hx
 | y :: t, p, h, x, hx => by
  unfold dckl at h
  by_cases h1 : dck1 p y = 0
  ·rw [if_neg (fun h2 => h2 h1)] at h
   rcases List.mem_cons.1 hx with rfl | hx
   ·unfold dck1 at h1
    by_cases h2 : chk x.2 = 0
    ·rw [if_neg (fun h3 => h3 h2)] at h1
     by_cases h3 : ival x.2 ≤ 0 ∨ ¬ (-1048576 ≤ x.1 ∧ x.1 ≤ 1048576)
     ·rw [if_pos h3] at h1; cases h1
     ·exact ⟨h2, by omega, by omega⟩
    ·rw [if_pos h2] at h1; exact absurd h1 h2
   ·exact dckl_all h x hx
  ·rw [if_pos h1] at h; exact absurd h h1
theorem gd_of {l : List (Int × ByteArray)} (h : dck l = 0) (hl : ∀ x ∈ l, (ival x.2).natAbs < 10 ^ 60) : Gd l := by
 unfold dck at h
 by_cases h0 : l.length = 0
 ·rw [if_pos h0] at h; cases h
 ·rw [if_neg h0] at h
  by_cases h1 : l.length > 4096
  ·rw [if_pos h1] at h; cases h
  ·rw [if_neg h1] at h
   have ha := dckl_all h
   exact ⟨fun h2 => h0 (by rw [h2]; rfl), by omega, fun x hx => (ha x hx).1, fun x hx => (ha x hx).2.1, fun x hx => (ha x hx).2.2, hl⟩
theorem natAbs_sum (u v : Int) : (u + v).natAbs ≤ u.natAbs + v.natAbs := Int.natAbs_add_le u v
theorem sumf_le (f : Int × ByteArray → Int) (B : Nat) (l : List (Int × ByteArray)) (h : ∀ x ∈ l, (f x).natAbs ≤ B) : (sumf f l).natAbs ≤ l.length * B := by
 have key : ∀ (l : List (Int × ByteArray)) (s : Int), (∀ x ∈ l, (f x).natAbs ≤ B) → (l.foldl (fun s x => s + f x) s).natAbs ≤ s.natAbs + l.length * B := by
  intro l
  induction l with
  | nil => intro s _; simp
  | cons x t ih =>
   intro s h
   have h1 := ih (s + f x) (fun y hy => h y (List.mem_cons_of_mem _ hy))
   have h2 := natAbs_sum s (f x)
   have h3 := h x (List.mem_cons_self)
   rw [List.foldl_cons, List.length_cons, Nat.succ_mul]
   omega
 have := key l 0 h
 simpa [sumf] using this
theorem fits_exp {v : Int} {e : Nat} (h : v.natAbs < 10 ^ e) (he : e ≤ 1024) : fits v := Nat.lt_of_lt_of_le h (Nat.pow_le_pow_right (by decide) he)
theorem pow_le73 {u n : Int} (pw : Nat) (hp : pw ≤ 2) (hu : u.natAbs < 10 ^ 60) (hn : -1048576 ≤ n ∧ n ≤ 1048576) : (u * n ^ pw).natAbs ≤ 10 ^ 73 := by
 rw [Int.natAbs_mul, Int.natAbs_pow]
 have h1 : n.natAbs ≤ 1048576 := by omega
 have h2 : n.natAbs ^ pw ≤ 1048576 ^ pw := Nat.pow_le_pow_left h1 pw
 have h3 : 1048576 ^ pw ≤ 10 ^ 13 := by
  have : pw = 0 ∨ pw = 1 ∨ pw = 2 := by omega
  rcases this with rfl | rfl | rfl <;> decide
 rw [show (73 : Nat) = 60 + 13 from rfl, Nat.pow_add]
 exact Nat.mul_le_mul (Nat.le_of_lt hu) (Nat.le_trans h2 h3)
theorem Gd.fM {l : List (Int × ByteArray)} (h : Gd l) {pw : Nat} (hp : pw ≤ 2) : ∀ x ∈ l, (fM pw x).natAbs ≤ 10 ^ 73 := fun x hx => pow_le73 pw hp (h.lim x hx) (h.val x hx)
theorem Gd.fW {l : List (Int × ByteArray)} (h : Gd l) : ∀ x ∈ l, (fW x).natAbs ≤ 10 ^ 73 := fun x hx => by
 have := h.fM (pw := 0) (by decide) x hx
 unfold Go.Proofs.YtkdpcgmnkifbbaaGreatDoor.fM at this
 rwa [Int.pow_zero, Int.mul_one] at this
theorem Gd.fP {l : List (Int × ByteArray)} (h : Gd l) (lo hi : Int) : ∀ x ∈ l, (fP lo hi x).natAbs ≤ 10 ^ 73 := fun x hx => by
 unfold Go.Proofs.YtkdpcgmnkifbbaaGreatDoor.fP pick
 split
 ·exact Nat.zero_le _
 ·exact h.fW x hx
theorem le73 {u : Nat} (h : u ≤ 10 ^ 73) : u < 10 ^ 74 := Nat.lt_of_le_of_lt h (Nat.pow_lt_pow_right (by decide) (by decide))
theorem sum77 {l : List (Int × ByteArray)} (hl : l.length ≤ 4096) {f : Int × ByteArray → Int} (h : ∀ x ∈ l, (f x).natAbs ≤ 10 ^ 73) : (sumf f l).natAbs < 10 ^ 77 := by
 have h1 := sumf_le f _ l h
 have h2 : l.length * 10 ^ 73 < 10 ^ 4 * 10 ^ 73 := Nat.mul_lt_mul_of_pos_right (Nat.lt_of_le_of_lt hl (by decide)) (Nat.pow_pos (by decide))
 rw [← Nat.pow_add] at h2
 exact Nat.lt_of_le_of_lt h1 h2
theorem sum77t {l : List (Int × ByteArray)} (hl : l.length ≤ 4096) {f : Int × ByteArray → Int} (h : ∀ x ∈ l, (f x).natAbs ≤ 10 ^ 73) (i : Nat) : fits (sumf f (l.take i)) :=
 fits_exp (sum77 (Nat.le_trans (by rw [List.length_take]; exact Nat.min_le_right _ _) hl) (fun x hx => h x (List.mem_of_mem_take hx))) (by decide)
theorem one74 {v : Int} (h : v.natAbs ≤ 10 ^ 73) : fits v := fits_exp (le73 h) (by decide)
def totw (l : List (Int × ByteArray)) : Int := sumf fW l
theorem sumf_pos {l : List (Int × ByteArray)} (hne : l ≠ []) (h : ∀ x ∈ l, 0 < ival x.2) : 0 < totw l := by
 have key : ∀ (l : List (Int × ByteArray)) (s : Int), (∀ x ∈ l, 0 < ival x.2) → s + l.length ≤ l.foldl (fun s x => s + fW x) s := by
  intro l
  induction l with
  | nil => intro s _; simp
  | cons x t ih =>
   intro s h
   have h1 := ih (s + fW x) (fun y hy => h y (List.mem_cons_of_mem _ hy))
   have h3 := h x (List.mem_cons_self)
   rw [List.foldl_cons, List.length_cons]
   unfold fW at h1 ⊢
   omega
 have := key l 0 h
 have hp := List.length_pos_iff.2 hne
 unfold totw sumf
 omega
set_option maxRecDepth 100000 in
set_option maxHeartbeats 4000000 in
theorem share_P (c : Nat) (lo hi : Int) (A0 : Option Addr) (c0 : Nat) (l : List (Int × ByteArray)) (w : World) (hr0 : Kd.C KP w A0 l.length l) (hc0 : l.length ≤ c0) (hgd : Gd l) (k0 : w.cell? ⟨c, 0, none⟩ = some (.int .i64 lo)) (k1 : w.cell? ⟨c, 1, none⟩ = some (.int .i64 hi)) (ht : Tabs w) :
  Calls Tryz.prog 33 #[.slice A0 l.length c0, .func (.func 34) #[] #[.pointer (some ⟨c, 0, none⟩)]] w (TwoPost w (rtx (Rat.divInt (sumf (fP lo hi) l) (totw l)), 0)) := by
 have HR0 := Lib.hid hr0; clear hr0
 have HC0 := Lib.hid hc0; clear hc0
 have HGD := Lib.hid hgd; clear hgd
 have HT := Lib.hid ht; clear ht
 have K0 := Lib.hid k0; clear k0
 have K1 := Lib.hid k1; clear k1
 have hfu : fits (sumf (fP lo hi) l) := fits_exp (sum77 HGD.out.len (HGD.out.fP lo hi)) (by decide)
 have hfv : fits (totw l) := fits_exp (sum77 HGD.out.len HGD.out.fW) (by decide)
 have hz : totw l ≠ 0 := by have := sumf_pos HGD.out.ne HGD.out.pos; omega
 have hmk : makeF (itx (sumf (fP lo hi) l)) (itx (totw l)) = (rtx (Rat.divInt (sumf (fP lo hi) l) (totw l)), 0) := by
  unfold makeF
  rw [two_go (chk_fits hfu) (chk_fits hfv), ival_itx, ival_itx, if_neg hz]
 have HMK := Lib.hid hmk; clear hmk
 have HZ1 := Lib.hid (Nat.le_trans (chk_size (chk_fits hfu)) (show 1025 ≤ 9223372036854775807 by decide))
 have HZ2 := Lib.hid (Nat.le_trans (chk_size (chk_fits hfv)) (show 1025 ≤ 9223372036854775807 by decide))
 have S1 := Lib.hid (sum_P c lo hi A0 c0 l w HR0.out HC0.out HGD.out.ck HGD.out.len (fun i _ => sum77t HGD.out.len (HGD.out.fP lo hi) i) (fun x hx => one74 (HGD.out.fP lo hi x hx)) K0.out K1.out HT.out)
 have S2 := Lib.hid fun (W : World) (hb : Below w.heap.size w W) => sum_W A0 c0 l W (Kd.C_below HR0.out hb) HC0.out HGD.out.ck HGD.out.len (fun i _ => sum77t HGD.out.len HGD.out.fW i) (fun x hx => one74 (HGD.out.fW x hx)) (HT.out.below hb)
 clear hfu hfv hz
 obtain ⟨su, hsu⟩ : ∃ su, su = sumf (fP lo hi) l := ⟨_, rfl⟩
 rw [← hsu] at S1 HMK HZ1 ⊢
 clear hsu
 go_enter Tryz.func33, Tryz.ntmps33
 go_wp2_with fail
 refine S1.out.mono ?_
 rintro e w1 ⟨rfl, hb1⟩
 have HB1 := Lib.hid hb1; clear hb1
 go_wp2_with fail
 refine (S2.out w1 HB1.out).mono ?_
 rintro e w2 ⟨rfl, hb2⟩
 have HB2 := Lib.hid (below_then HB1.out HB1.out.size hb2); clear hb2
 go_wp2_with fail
 have hm := make_calls (itx su) (itx (totw l)) HZ1.out HZ2.out w2 (HT.out.below HB2.out)
 rw [HMK.out] at hm
 refine hm.mono ?_
 rintro e w3 ⟨rfl, hb3⟩
 have HB3 := Lib.hid (below_then HB2.out HB2.out.size hb3); clear hb3 hm
 go_wp2
 go_ret2
 exact ⟨rfl, HB3.out⟩
set_option maxRecDepth 100000 in
set_option maxHeartbeats 4000000 in
theorem share_M (c pw : Nat) (A0 : Option Addr) (c0 : Nat) (l : List (Int × ByteArray)) (w : World) (hr0 : Kd.C KP w A0 l.length l) (hc0 : l.length ≤ c0) (hgd : Gd l) (k0 : w.cell? ⟨c, 0, none⟩ = some (.int .i64 pw)) (hpw : pw ≤ 2) (ht : Tabs w) :
  Calls Tryz.prog 33 #[.slice A0 l.length c0, .func (.func 77) #[] #[.pointer (some ⟨c, 0, none⟩)]] w (TwoPost w (rtx (Rat.divInt (sumf (fM pw) l) (totw l)), 0)) := by
 have HR0 := Lib.hid hr0; clear hr0
 have HC0 := Lib.hid hc0; clear hc0
 have HGD := Lib.hid hgd; clear hgd
 have HT := Lib.hid ht; clear ht
 have K0 := Lib.hid k0; clear k0
 have HPW := Lib.hid hpw; clear hpw
 have hfu : fits (sumf (fM pw) l) := fits_exp (sum77 HGD.out.len (HGD.out.fM HPW.out)) (by decide)
 have hfv : fits (totw l) := fits_exp (sum77 HGD.out.len HGD.out.fW) (by decide)
 have hz : totw l ≠ 0 := by have := sumf_pos HGD.out.ne HGD.out.pos; omega
 have hmk : makeF (itx (sumf (fM pw) l)) (itx (totw l)) = (rtx (Rat.divInt (sumf (fM pw) l) (totw l)), 0) := by
  unfold makeF
  rw [two_go (chk_fits hfu) (chk_fits hfv), ival_itx, ival_itx, if_neg hz]
 have HMK := Lib.hid hmk; clear hmk
 have HZ1 := Lib.hid (Nat.le_trans (chk_size (chk_fits hfu)) (show 1025 ≤ 9223372036854775807 by decide))
 have HZ2 := Lib.hid (Nat.le_trans (chk_size (chk_fits hfv)) (show 1025 ≤ 9223372036854775807 by decide))
 have S1 := Lib.hid (sum_M c pw A0 c0 l w HR0.out HC0.out HGD.out.ck HGD.out.len (fun i _ => sum77t HGD.out.len (HGD.out.fM HPW.out) i) (fun x hx => one74 (HGD.out.fM HPW.out x hx)) K0.out (Nat.le_trans HPW.out (by decide)) (fun x hx => by have := HGD.out.val x hx; omega) (fun x hx i hi => one74 (pow_le73 i (Nat.le_trans hi HPW.out) (HGD.out.lim x hx) (HGD.out.val x hx))) HT.out)
 have S2 := Lib.hid fun (W : World) (hb : Below w.heap.size w W) => sum_W A0 c0 l W (Kd.C_below HR0.out hb) HC0.out HGD.out.ck HGD.out.len (fun i _ => sum77t HGD.out.len HGD.out.fW i) (fun x hx => one74 (HGD.out.fW x hx)) (HT.out.below hb)
 clear hfu hfv hz
 obtain ⟨su, hsu⟩ : ∃ su, su = sumf (fM pw) l := ⟨_, rfl⟩
 rw [← hsu] at S1 HMK HZ1 ⊢
 clear hsu
 go_enter Tryz.func33, Tryz.ntmps33
 go_wp2_with fail
 refine S1.out.mono ?_
 rintro e w1 ⟨rfl, hb1⟩
 have HB1 := Lib.hid hb1; clear hb1
 go_wp2_with fail
 refine (S2.out w1 HB1.out).mono ?_
 rintro e w2 ⟨rfl, hb2⟩
 have HB2 := Lib.hid (below_then HB1.out HB1.out.size hb2); clear hb2
 go_wp2_with fail
 have hm := make_calls (itx su) (itx (totw l)) HZ1.out HZ2.out w2 (HT.out.below HB2.out)
 rw [HMK.out] at hm
 refine hm.mono ?_
 rintro e w3 ⟨rfl, hb3⟩
 have HB3 := Lib.hid (below_then HB2.out HB2.out.size hb3); clear hb3 hm
 go_wp2
 go_ret2
 exact ⟨rfl, HB3.out⟩
set_option maxRecDepth 100000 in
set_option maxHeartbeats 4000000 in
theorem moment_calls (pw : Nat) (w : World) : Calls Tryz.prog 43 #[.int .i64 pw] w fun e w' => e = .returned (.func (.func 77) #[] #[.pointer (some ⟨w.heap.size, 0, none⟩)]) ∧ w'.cell? ⟨w.heap.size, 0, none⟩ = some (.int .i64 pw) ∧ Below w.heap.size w w' := by
 go_enter Tryz.func43, Tryz.ntmps43
 go_wp2
 go_ret
 refine ⟨rfl, ?_, (Below.refl _ _).alloc (Nat.le_refl _) _⟩
 rw [World.cell?, heap_alloc_new]
 rfl
def distR (l : List (Int × ByteArray)) (r : ByteArray × Int) : ByteArray × Int := if dck l = 0 then r else (⟨#[]⟩, dck l)
def meanq (l : List (Int × ByteArray)) : Rat := Rat.divInt (sumf (fM 1) l) (totw l)
def meanR (l : List (Int × ByteArray)) : ByteArray × Int := distR l (rtx (meanq l), 0)
def probq (l : List (Int × ByteArray)) (lo hi : Int) : Rat := Rat.divInt (sumf (fP lo hi) l) (totw l)
def probR (l : List (Int × ByteArray)) (lo hi : Int) : ByteArray × Int := distR l (if lo > hi then (⟨#[]⟩, 9) else (rtx (probq l lo hi), 0))
def okD (l : List (Int × ByteArray)) : Prop := (∀ x ∈ l, x.2.size ≤ 9223372036854775807) ∧ (dck l = 0 → ∀ x ∈ l, (ival x.2).natAbs < 10 ^ 60)
instance (l : List (Int × ByteArray)) : Decidable (okD l) := inferInstanceAs (Decidable (_ ∧ _))
set_option maxRecDepth 100000 in
set_option maxHeartbeats 4000000 in
theorem mean_calls (A0 : Option Addr) (c0 : Nat) (l : List (Int × ByteArray)) (w : World) (hr0 : Kd.C KP w A0 l.length l) (hc0 : l.length ≤ c0) (hok : okD l) (ht : Tabs w) :
  Calls Tryz.prog 16 #[.slice A0 l.length c0] w (TwoPost w (meanR l)) := by
 have HR0 := Lib.hid hr0; clear hr0
 have HC0 := Lib.hid hc0; clear hc0
 have HT := Lib.hid ht; clear ht
 have CK := Lib.hid (dcheck_calls A0 c0 l w HR0.out HC0.out hok.1)
 by_cases h0 : dck l = 0
 ·have HGD := Lib.hid (gd_of h0 (hok.2 h0)); clear hok
  rw [h0] at CK
  have e0 : meanR l = (rtx (meanq l), 0) := if_pos h0
  rw [e0]
  clear h0 e0
  go_enter Tryz.func16, Tryz.ntmps16
  go_wp2_with fail
  refine CK.out.mono ?_
  rintro e w1 ⟨rfl, hb1⟩
  have HB1 := Lib.hid hb1; clear hb1
  go_wp2_with fail
  refine (moment_calls 1 w1).mono ?_
  rintro e w2 ⟨rfl, k0, hb2⟩
  have HB2 := Lib.hid (below_then HB1.out HB1.out.size hb2); clear hb2
  have K0 := Lib.hid k0; clear k0
  go_wp2_with fail
  refine (share_M w1.heap.size 1 A0 c0 l w2 (Kd.C_below HR0.out HB2.out) HC0.out HGD.out K0.out (by decide) (HT.out.below HB2.out)).mono ?_
  rintro e w3 ⟨rfl, hb3⟩
  have HB3 := Lib.hid (below_then HB2.out HB2.out.size hb3); clear hb3
  go_wp2
  go_ret2
  exact ⟨rfl, HB3.out⟩
 ·have e0 : meanR l = (⟨#[]⟩, dck l) := if_neg h0
  rw [e0]
  have hne : (dck l == 0) = false := beq_eq_false_iff_ne.2 h0
  clear hok h0 e0
  generalize dck l = d at CK hne ⊢
  go_enter Tryz.func16, Tryz.ntmps16
  go_wp2_with fail
  refine CK.out.mono ?_
  rintro e w1 ⟨rfl, hb1⟩
  have HB1 := Lib.hid hb1; clear hb1
  go_wp2
  go_ret2
  exact ⟨rfl, HB1.out⟩
set_option maxRecDepth 100000 in
set_option maxHeartbeats 4000000 in
theorem prob_calls (lo hi : Int) (A0 : Option Addr) (c0 : Nat) (l : List (Int × ByteArray)) (w : World) (hr0 : Kd.C KP w A0 l.length l) (hc0 : l.length ≤ c0) (hok : okD l) (ht : Tabs w) :
  Calls Tryz.prog 10 #[.slice A0 l.length c0, .agg #[.int .i64 lo, .int .i64 hi]] w (TwoPost w (probR l lo hi)) := by
 have HR0 := Lib.hid hr0; clear hr0
 have HC0 := Lib.hid hc0; clear hc0
 have HT := Lib.hid ht; clear ht
 have hb0 : Below w.heap.size w (w.alloc (.cells #[.int .i64 lo, .int .i64 hi] 24)) := (Below.refl w.heap.size w).alloc (Nat.le_refl _) _
 have c0' := lit0 w (.int .i64 lo) (.int .i64 hi) 24
 have c1' := lit1 w (.int .i64 lo) (.int .i64 hi) 24
 have CK := Lib.hid fun (W : World) (hb : Below w.heap.size w W) => dcheck_calls A0 c0 l W (Kd.C_below HR0.out hb) HC0.out hok.1
 have HB0 := Lib.hid hb0; clear hb0
 have K0 := Lib.hid c0'; clear c0'
 have K1 := Lib.hid c1'; clear c1'
 by_cases h0 : dck l = 0
 ·have HGD := Lib.hid (gd_of h0 (hok.2 h0)); clear hok
  rw [h0] at CK
  by_cases hlh : lo > hi
  ·have e0 : probR l lo hi = (⟨#[]⟩, 9) := by unfold probR distR; rw [if_pos h0, if_pos hlh]
   rw [e0]
   have hl1 : (hi < lo) = True := eq_true hlh
   clear h0 e0 hlh
   go_enter Tryz.func10, Tryz.ntmps10
   go_wp2_with fail
   generalize w.alloc (.cells #[.int .i64 lo, .int .i64 hi] 24) = w0 at HB0 K0 K1 ⊢
   refine (CK.out w0 HB0.out).mono ?_
   rintro e w1 ⟨rfl, hb1⟩
   have HB1 := Lib.hid (below_then HB0.out HB0.out.size hb1)
   have k0 := (hb1.cell (World.block_lt_of_cell? _ _ K0.out)).trans K0.out
   have k1 := (hb1.cell (World.block_lt_of_cell? _ _ K1.out)).trans K1.out
   clear hb1
   go_wp2
   go_ret2
   exact ⟨rfl, HB1.out⟩
  ·have e0 : probR l lo hi = (rtx (probq l lo hi), 0) := by unfold probR distR; rw [if_pos h0, if_neg hlh]
   rw [e0]
   have hl1 : (hi < lo) = False := eq_false hlh
   clear h0 e0 hlh
   go_enter Tryz.func10, Tryz.ntmps10
   go_wp2_with fail
   generalize w.alloc (.cells #[.int .i64 lo, .int .i64 hi] 24) = w0 at HB0 K0 K1 ⊢
   refine (CK.out w0 HB0.out).mono ?_
   rintro e w1 ⟨rfl, hb1⟩
   have HB1 := Lib.hid (below_then HB0.out HB0.out.size hb1)
   have k0 := (hb1.cell (World.block_lt_of_cell? _ _ K0.out)).trans K0.out
   have k1 := (hb1.cell (World.block_lt_of_cell? _ _ K1.out)).trans K1.out
   have J0 := Lib.hid k0
   have J1 := Lib.hid k1
   clear hb1
   go_wp2_with fail
   refine (share_P w.heap.size lo hi A0 c0 l w1 (Kd.C_below HR0.out HB1.out) HC0.out HGD.out J0.out J1.out (HT.out.below HB1.out)).mono ?_
   rintro e w3 ⟨rfl, hb3⟩
   have HB3 := Lib.hid (below_then HB1.out HB1.out.size hb3); clear hb3
   go_wp2
   go_ret2
   exact ⟨rfl, HB3.out⟩
 ·have e0 : probR l lo hi = (⟨#[]⟩, dck l) := if_neg h0
  rw [e0]
  have hne : (dck l == 0) = false := beq_eq_false_iff_ne.2 h0
  clear hok h0 e0
  generalize dck l = d at CK hne ⊢
  go_enter Tryz.func10, Tryz.ntmps10
  go_wp2_with fail
  generalize w.alloc (.cells #[.int .i64 lo, .int .i64 hi] 24) = w0 at HB0 K0 K1 ⊢
  refine (CK.out w0 HB0.out).mono ?_
  rintro e w1 ⟨rfl, hb1⟩
  have HB1 := Lib.hid (below_then HB0.out HB0.out.size hb1); clear hb1
  go_wp2
  go_ret2
  exact ⟨rfl, HB1.out⟩
end Go.Proofs.YtkdpcgmnkifbbaaGreatDoor
end
