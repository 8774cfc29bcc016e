/- Joined by a program of this session out of its texts, with only what the last theorem needs: Pl Pm Pn Po Pp. No conditions but those stated. -/
import Derived.Test.YtkdpcgmnkifbbaaGreatDoorZC07
import Derived.Test.YtkdpcgmnkifbbaaGreatDoorZC30
import Derived.Test.YtkdpcgmnkifbbaaGreatDoorZC35
import Derived.Test.YtkdpcgmnkifbbaaGreatDoorZC29
set_option linter.unusedVariables false
set_option linter.unusedSimpArgs false
namespace Go.Proofs.YtkdpcgmnkifbbaaGreatDoorW.PrintMore
end Go.Proofs.YtkdpcgmnkifbbaaGreatDoorW.PrintMore
namespace Go.Proofs.YtkdpcgmnkifbbaaGreatDoorW.PrintWords
end Go.Proofs.YtkdpcgmnkifbbaaGreatDoorW.PrintWords
section
namespace Go.Proofs.YtkdpcgmnkifbbaaGreatDoor
open Go.RowKit Go.Proofs.YtkdpcgmnkifbbaaGreatDoorW.PrintWords Go.Proofs.YtkdpcgmnkifbbaaGreatDoorW.PrintMore
open D (S60 prs)
theorem prs_get (l : List S60) (i : Nat) (h : i < l.length) : D.rd_T60 l (i : Int) = l[i] := by
 unfold D.rd_T60; rw [Int.toNat_natCast, List.getD, List.getElem?_eq_getElem h]; rfl
theorem prs_at (l : List S60) (i : Nat) (h : i < l.length) : (prs l)[i]'(by rw [D.prs_len]; exact h) = (l[i].f0, l[i].f1) := by unfold prs; rw [List.getElem_map]
theorem few_l0 (l : List S60) (hl : l.length ≤ 4611686018427387904) (d i : Nat) (hd : i + d = l.length) (hi : i ≤ 13) (hall : ∀ j (h : j < l.length), j < i → l[j].f1.size ≤ 20) :
  ∃ b, Runs (fun k => D.metrolabref26_Few.l0 k l i) b ∧ (b = true → (l.length ≤ 12 ∧ ∀ x ∈ l, x.f1.size ≤ 20) ∨ l.length > 4096) := by
 have hend : i = l.length ∨ i = 13 → ∃ b, Runs (fun k => D.metrolabref26_Few.j1 k l i false) b ∧ (b = true → (l.length ≤ 12 ∧ ∀ x ∈ l, x.f1.size ≤ 20) ∨ l.length > 4096) := by
  intro he
  by_cases h12 : l.length ≤ 12
  ·refine ⟨true, Runs.succ (Runs.pure _) fun k => ?_, fun _ => .inl ⟨h12, fun x hx => ?_⟩⟩
   ·rw [D.metrolabref26_Few.j1, if_neg (by decide), if_pos (by omega)]
   ·obtain ⟨j, hj, rfl⟩ := List.getElem_of_mem hx
    exact hall j hj (by omega)
  ·by_cases h4 : l.length > 4096
   ·refine ⟨decide ((l.length : Int) < 8192), Runs.succ (Runs.pure _) fun k => ?_, fun _ => .inr h4⟩
    rw [D.metrolabref26_Few.j1, if_neg (by decide), if_neg (by omega), if_pos (by omega)]
   ·refine ⟨false, Runs.succ (Runs.pure _) fun k => ?_, fun h => by cases h⟩
    rw [D.metrolabref26_Few.j1, if_neg (by decide), if_neg (by omega), if_neg (by omega)]
 induction d generalizing i with
 | zero =>
  obtain ⟨b, hb, hb2⟩ := hend (.inl (by omega))
  refine ⟨b, Runs.succ hb fun k => ?_, hb2⟩
  rw [D.metrolabref26_Few.l0, if_neg (by omega)]
 | succ d ih =>
  by_cases h13 : i = 13
  ·obtain ⟨b, hb, hb2⟩ := hend (.inr h13)
   refine ⟨b, Runs.succ hb fun k => ?_, hb2⟩
   rw [D.metrolabref26_Few.l0, if_pos (by omega), decide_eq_false (by omega)]
  ·have hil : i < l.length := by omega
   have hg := prs_get l i hil
   by_cases h20 : l[i].f1.size > 20
   ·refine ⟨false, Runs.succ (Runs.succ (Runs.pure _) (g := fun k => D.metrolabref26_Few.j1 k l i true) fun k => ?_) fun k => ?_, fun h => by cases h⟩
    ·rw [D.metrolabref26_Few.j1, if_pos rfl, if_pos (by omega), if_pos (by omega), hg, if_pos (by omega)]
    ·rw [D.metrolabref26_Few.l0, if_pos (by omega), decide_eq_true (by omega)]
   ·obtain ⟨b, hb, hb2⟩ := ih (i + 1) (by omega) (by omega) (fun j hj hji => by
     by_cases hje : j = i
     ·subst hje; omega
     ·exact hall j hj (by omega)) (fun he => by
     by_cases h12 : l.length ≤ 12
     ·refine ⟨true, Runs.succ (Runs.pure _) fun k => ?_, fun _ => .inl ⟨h12, fun x hx => ?_⟩⟩
      ·rw [D.metrolabref26_Few.j1, if_neg (by decide), if_pos (by omega)]
      ·obtain ⟨j, hj, rfl⟩ := List.getElem_of_mem hx
       by_cases hje : j = i
       ·subst hje; omega
       ·exact hall j hj (by omega)
     ·by_cases h4 : l.length > 4096
      ·refine ⟨decide ((l.length : Int) < 8192), Runs.succ (Runs.pure _) fun k => ?_, fun _ => .inr h4⟩
       rw [D.metrolabref26_Few.j1, if_neg (by decide), if_neg (by omega), if_pos (by omega)]
      ·refine ⟨false, Runs.succ (Runs.pure _) fun k => ?_, fun h => by cases h⟩
       rw [D.metrolabref26_Few.j1, if_neg (by decide), if_neg (by omega), if_neg (by omega)])
    refine ⟨b, Runs.succ (Runs.succ hb (g := fun k => D.metrolabref26_Few.j1 k l i true) fun k => ?_) fun k => ?_, hb2⟩
    ·rw [D.metrolabref26_Few.j1, if_pos rfl, if_pos (by omega), if_pos (by omega), hg, if_neg (by omega), IntWalk.wrap64_in _ (by omega)]; rfl
    ·rw [D.metrolabref26_Few.l0, if_pos (by omega), decide_eq_true (by omega)]
theorem few_f (l : List S60) (hl : l.length ≤ 4611686018427387904) : ∃ b, Runs (fun k => D.metrolabref26_Few.f k l) b ∧ (b = true → (l.length ≤ 12 ∧ ∀ x ∈ l, x.f1.size ≤ 20) ∨ l.length > 4096) :=
 few_l0 l hl l.length 0 (by omega) (by omega) (fun _ _ h => by omega)
def szs (l : List S60) : Prop := ∀ x ∈ l, x.f1.size ≤ 140737488351232
theorem szs_prs {l : List S60} (h : szs l) : ∀ x ∈ prs l, x.2.size ≤ 9223372036854775807 := by
 intro x hx
 obtain ⟨y, hy, rfl⟩ := List.mem_map.1 hx
 exact Nat.le_trans (h y hy) (by decide)
theorem okI_of {a : ByteArray} (h : chk a = 0) : D.okI a := ⟨chk_form h, Nat.le_trans (chk_size90 h) (by decide)⟩
theorem okI_zero : D.okI (⟨#[48]⟩ : ByteArray) := okI_of zero_ok.1
theorem order_zero {a : ByteArray} (h : chk a = 0) : D.metrolabref01_Order.f a (⟨#[48]⟩ : ByteArray) = some (cmpv (ival a) 0) := by
 unfold D.metrolabref01_Order.f
 rw [if_pos ⟨okI_of h, okI_zero⟩, zero_ok.2]
theorem value_f (n : Int) : D.metrolabref26_Value.f n = some (decide (-1048576 ≤ n ∧ n ≤ 1048576)) := by
 unfold D.metrolabref26_Value.f
 by_cases h : n ≥ -1048576
 ·rw [if_pos h]
  by_cases h2 : n ≤ 1048576
  ·rw [decide_eq_true h2, decide_eq_true ⟨h, h2⟩]
  ·rw [decide_eq_false h2, decide_eq_false (fun h3 => h2 h3.2)]
 ·rw [if_neg h, decide_eq_false (fun h3 => h h3.1)]
theorem cmpv_zero_le {u : Int} : cmpv u 0 ≤ 0 ↔ u ≤ 0 := by
 unfold cmpv
 split
 ·constructor <;> intro <;> omega
 ·split <;> constructor <;> intro <;> omega
theorem rcheck26_l0 (l : List S60) (hz : szs l) (hl : l.length ≤ 4096) (d i : Nat) (hd : i + d = l.length) :
  Runs (fun k => D.metrolabref26_Check.l0 k l i) (dckl (prevv (prs l) i) ((prs l).drop i)) := by
 have hpl := D.prs_len l
 induction d generalizing i with
 | zero =>
  rw [List.drop_of_length_le (by omega)]
  refine Runs.succ (Runs.pure _) fun k => ?_
  rw [D.metrolabref26_Check.l0, if_neg (by omega)]; rfl
 | succ d ih =>
  have hil : i < l.length := by omega
  have hg := prs_get l i hil
  have hn := ih (i + 1) (by omega)
  have hsz := hz _ (List.getElem_mem hil)
  have hx := prs_at l i hil
  have hp1 : prevv (prs l) (i + 1) = some (l[i].f0) := by
   unfold prevv
   rw [if_neg (by omega), Nat.add_sub_cancel, List.getElem?_eq_getElem (by omega), hx]; rfl
  rw [hp1] at hn
  rw [List.drop_eq_getElem_cons (by omega), dckl, hx]
  have hck : D.metrolabref01_Check.f l[i].f1 = some (chk l[i].f1) := by
   unfold D.metrolabref01_Check.f; rw [if_pos (by omega)]
  by_cases h0 : chk l[i].f1 = 0
  ·have ho := order_zero h0
   have hbad : Runs (fun k => D.metrolabref26_Check.j1 k l i true) 2 := by
    refine Runs.succ (Runs.pure _) fun k => ?_
    rw [D.metrolabref26_Check.j1, if_pos rfl]
   by_cases hneg : ival l[i].f1 ≤ 0
   ·have e : dck1 (prevv (prs l) i) (l[i].f0, l[i].f1) = 2 := by
     unfold dck1
     rw [if_neg (fun h => h h0), if_pos (.inl hneg)]
    rw [e, if_pos (by decide)]
    refine Runs.succ hbad fun k => ?_
    rw [D.metrolabref26_Check.l0, if_pos (by omega), if_pos (by omega), hg, hck, Option.bind_some, if_pos h0, ho, Option.bind_some, if_pos (cmpv_zero_le.2 hneg)]
   ·by_cases hv : -1048576 ≤ l[i].f0 ∧ l[i].f0 ≤ 1048576
    ·have e : dck1 (prevv (prs l) i) (l[i].f0, l[i].f1) = (match prevv (prs l) i with | none => 0 | some q => if l[i].f0 ≤ q then 9 else 0) := by
      unfold dck1
      rw [if_neg (fun h => h h0), if_neg (fun h => h.elim hneg (fun h => h hv))]
      cases prevv (prs l) i <;> rfl
     have hgo : Runs (fun k => D.metrolabref26_Check.j1 k l i false) (if dck1 (prevv (prs l) i) (l[i].f0, l[i].f1) ≠ 0 then dck1 (prevv (prs l) i) (l[i].f0, l[i].f1) else dckl (some l[i].f0) ((prs l).drop (i + 1))) := by
      rw [e]
      by_cases hi0 : i = 0
      ·have ep : prevv (prs l) i = none := if_pos hi0
       rw [ep]
       simp only [ne_eq, not_true_eq_false, if_false]
       refine Runs.succ hn fun k => ?_
       rw [D.metrolabref26_Check.j1, if_neg (by decide), if_neg (by omega), IntWalk.wrap64_in _ (by omega)]; rfl
      ·obtain ⟨m, rfl⟩ : ∃ m, i = m + 1 := ⟨i - 1, by omega⟩
       have hml : m < l.length := by omega
       have ep : prevv (prs l) (m + 1) = some (l[m].f0) := by
        unfold prevv
        rw [if_neg (by omega), Nat.add_sub_cancel, List.getElem?_eq_getElem (by omega), prs_at l m hml]; rfl
       have hgm := prs_get l m hml
       have w1 : wrap64 (((m + 1 : Nat) : Int) - 1) = (m : Int) := by rw [IntWalk.wrap64_in _ (by omega)]; omega
       rw [ep]
       simp only
       by_cases hle : l[m + 1].f0 ≤ l[m].f0
       ·rw [if_pos hle, if_pos (by decide)]
        refine Runs.succ (Runs.pure _) fun k => ?_
        rw [D.metrolabref26_Check.j1, if_neg (by decide), if_pos (by omega), if_pos (by omega), if_pos (by omega), w1, if_pos (by omega), if_pos (by omega), hg, hgm, if_pos hle]
       ·rw [if_neg hle, if_neg (fun h => h rfl)]
        refine Runs.succ hn fun k => ?_
        rw [D.metrolabref26_Check.j1, if_neg (by decide), if_pos (by omega), if_pos (by omega), if_pos (by omega), w1, if_pos (by omega), if_pos (by omega), hg, hgm, if_neg hle, IntWalk.wrap64_in _ (by omega)]; rfl
     refine Runs.succ hgo fun k => ?_
     rw [D.metrolabref26_Check.l0, if_pos (by omega), if_pos (by omega), hg, hck, Option.bind_some, if_pos h0, ho, Option.bind_some, if_neg (fun h => hneg (cmpv_zero_le.1 h)), value_f, Option.bind_some, decide_eq_true hv]; rfl
    ·have e : dck1 (prevv (prs l) i) (l[i].f0, l[i].f1) = 2 := by
      unfold dck1
      rw [if_neg (fun h => h h0), if_pos (.inr hv)]
     rw [e, if_pos (by decide)]
     refine Runs.succ hbad fun k => ?_
     rw [D.metrolabref26_Check.l0, if_pos (by omega), if_pos (by omega), hg, hck, Option.bind_some, if_pos h0, ho, Option.bind_some, if_neg (fun h => hneg (cmpv_zero_le.1 h)), value_f, Option.bind_some, decide_eq_false hv]; rfl
  ·have e : dck1 (prevv (prs l) i) (l[i].f0, l[i].f1) = chk l[i].f1 := if_pos h0
   rw [e, if_pos h0]
   refine Runs.succ (Runs.pure _) fun k => ?_
   rw [D.metrolabref26_Check.l0, if_pos (by omega), if_pos (by omega), hg, hck, Option.bind_some, if_neg h0]
theorem rcheck26 (l : List S60) (hz : szs l) (hl : l.length ≤ 4611686018427387904) : Runs (fun k => D.metrolabref26_Check.f k l) (dck (prs l)) := by
 unfold D.metrolabref26_Check.f dck
 rw [D.prs_len]
 by_cases h0 : l.length = 0
 ·rw [if_pos h0]; exact Runs.pos (by omega) (Runs.pure _)
 ·rw [if_neg h0]
  refine Runs.neg (by omega) ?_
  by_cases h1 : l.length > 4096
  ·rw [if_pos h1]; exact Runs.pos (by omega) (Runs.pure _)
  ·rw [if_neg h1]
   refine Runs.neg (by omega) ?_
   have h := rcheck26_l0 l hz (by omega) l.length 0 (by omega)
   exact h
end Go.Proofs.YtkdpcgmnkifbbaaGreatDoor
end
section
namespace Go.Proofs.YtkdpcgmnkifbbaaGreatDoor
open Go.RowKit Go.Proofs.YtkdpcgmnkifbbaaGreatDoorW.PrintWords Go.Proofs.YtkdpcgmnkifbbaaGreatDoorW.PrintMore
open D (S60 prs)
theorem len_lt {v : Int} {e n : Nat} (h : v.natAbs < 10 ^ e) (h0 : 0 < e) (hn : e ≤ n) : (dtx v.natAbs).size ≤ n := Nat.le_trans (size_of_lt h h0) hn
theorem okI_bd {v : Int} {e : Nat} (h : v.natAbs < 10 ^ e) (h0 : 0 < e) (hn : e ≤ 30000) : D.okI (itx v) := D.okI_itx (len_lt h h0 hn)
theorem wtx {l : List S60} (h : Gd (prs l)) {i : Nat} (hi : i < l.length) : l[i].f1 = itx (ival l[i].f1) ∧ (ival l[i].f1).natAbs < 10 ^ 60 ∧ fW ((prs l)[i]'(by rw [D.prs_len]; exact hi)) = ival l[i].f1 := by
 have hm : (prs l)[i]'(by rw [D.prs_len]; exact hi) ∈ prs l := List.getElem_mem _
 have h1 := h.ck _ hm
 have h2 := h.lim _ hm
 rw [prs_at l i hi] at h1 h2
 refine ⟨(chk_zero h1).1, h2, ?_⟩
 rw [prs_at l i hi]; rfl
theorem rtx_zero : rtx 0 = (⟨#[48]⟩ : ByteArray) := by
 rw [← itx_zero]
 exact rtx_int 0
theorem rtx_one : rtx 1 = (⟨#[49]⟩ : ByteArray) := by
 rw [one_text]
 exact rtx_int 1
theorem gd_ck {l : List (Int × ByteArray)} (h : dck l = 0) : ∀ x ∈ l, chk x.2 = 0 := by
 unfold dck at h
 split at h
 ·cases h
 ·split at h
  ·cases h
  ·exact fun x hx => (dckl_all h x hx).1
structure Fine (l : List S60) : Prop where
 sz : szs l
 lim : dck (prs l) = 0 → ∀ x ∈ prs l, (ival x.2).natAbs < 10 ^ 60
 len : l.length ≤ 4611686018427387904
theorem Fine.ok {l : List S60} (h : Fine l) : okD (prs l) := ⟨szs_prs h.sz, h.lim⟩
theorem Fine.gd {l : List S60} (h : Fine l) (h0 : dck (prs l) = 0) : Gd (prs l) := gd_of h0 (h.lim h0)
theorem dprob_f (l : List S60) (h : Fine l) (lo hi : Int) : D.dist_Probability.f l lo hi = some (probR (prs l) lo hi) := by
 unfold D.dist_Probability.f; rw [if_pos h.ok]
theorem dcheck_f (l : List S60) (h : Fine l) : D.dist_Check.f l = some (dck (prs l)) := by
 unfold D.dist_Check.f; rw [if_pos (szs_prs h.sz)]
theorem fine_few {l : List S60} (hsz : szs l) (hl : l.length ≤ 4611686018427387904) (h : (l.length ≤ 12 ∧ ∀ x ∈ l, x.f1.size ≤ 20) ∨ l.length > 4096) : Fine l := by
 refine ⟨hsz, fun h0 x hx => ?_, hl⟩
 rcases h with h | h
 ·obtain ⟨y, hy, rfl⟩ := List.mem_map.1 hx
  have hck := (gd_ck h0) _ hx
  have h1 := h.2 y hy
  have e := (chk_zero hck).1
  have h2 := dtx_le_itx (ival y.f1)
  rw [← e] at h2
  exact Nat.lt_of_lt_of_le (lt_of_size (Nat.le_trans h2 h1)) (Nat.pow_le_pow_right (by decide) (by decide))
 ·exfalso
  unfold dck at h0
  rw [D.prs_len, if_neg (by omega), if_pos h] at h0
  cases h0
end Go.Proofs.YtkdpcgmnkifbbaaGreatDoor
end
section
namespace Go.Proofs.YtkdpcgmnkifbbaaGreatDoor
open Go.RowKit Go.Proofs.YtkdpcgmnkifbbaaGreatDoorW.PrintWords Go.Proofs.YtkdpcgmnkifbbaaGreatDoorW.PrintMore
open D (S60 prs)
theorem dckl_sorted : ∀ {l : List (Int × ByteArray)} {p : Option Int}, dckl p l = 0 → (∀ q, p = some q → ∀ x ∈ l, q < x.1) ∧ l.Pairwise (fun x y => x.1 < y.1)
 | [], _, _ => ⟨fun _ _ x hx => by simp at hx, List.Pairwise.nil⟩
 | y :: t, p, h => by
  unfold dckl at h
  by_cases h1 : dck1 p y = 0
  ·rw [if_neg (fun h2 => h2 h1)] at h
   have ih := dckl_sorted h
   have hy : ∀ q, p = some q → q < y.1 := by
    intro q hq
    subst hq
    unfold dck1 at h1
    split at h1
    ·rename_i h2; exact absurd h1 h2
    ·split at h1
     ·cases h1
     ·simp only at h1
      split at h1
      ·cases h1
      ·omega
   refine ⟨fun q hq x hx => ?_, List.Pairwise.cons (fun x hx => ih.1 _ rfl x hx) ih.2⟩
   rcases List.mem_cons.1 hx with rfl | hx
   ·exact hy q hq
   ·exact Int.lt_trans (hy q hq) (ih.1 _ rfl x hx)
  ·rw [if_pos h1] at h; exact absurd h h1
theorem dck_sorted {l : List (Int × ByteArray)} (h : dck l = 0) : l.Pairwise (fun x y => x.1 < y.1) := by
 unfold dck at h
 split at h
 ·cases h
 ·split at h
  ·cases h
  ·exact (dckl_sorted h).2
theorem probR_ok {l : List (Int × ByteArray)} (h0 : dck l = 0) {lo hi : Int} (h : lo ≤ hi) : probR l lo hi = (rtx (probq l lo hi), 0) := by
 unfold probR distR
 rw [if_pos h0, if_neg (by omega)]
theorem compare_rtx {p q : Rat} {a b : Nat} (hp : Bd a p) (hq : Bd b q) (ha : 0 < a) (hb : 0 < b) (hab : a + b ≤ 1024) : D.ratio_Compare.f (rtx p) (rtx q) = some (cmpq p q, 0) := by
 unfold D.ratio_Compare.f
 have h1 := rtx_size2 hp ha
 have h2 := rtx_size2 hq hb
 rw [if_pos ⟨by omega, by omega⟩, cmpR_rtx hp hq hab]
theorem zero_bd : Bd 1 (0 : Rat) := ⟨by decide, by decide⟩
theorem one_bd : Bd 1 (1 : Rat) := ⟨by decide, by decide⟩
end Go.Proofs.YtkdpcgmnkifbbaaGreatDoor
end
section
namespace Go.Proofs.YtkdpcgmnkifbbaaGreatDoor
open Go.RowKit Go.Proofs.YtkdpcgmnkifbbaaGreatDoorW.PrintWords Go.Proofs.YtkdpcgmnkifbbaaGreatDoorW.PrintMore
open D (S60 prs)
theorem two_text : (⟨#[50]⟩ : ByteArray) = itx 2 := by unfold itx Lib.itoa; rw [if_neg (by decide)]; show _ = (⟨(Lib.decDigits 2).toArray⟩ : ByteArray); rw [dd_small (by decide)]; rfl
def samp : List S60 := [⟨1, itx 1⟩, ⟨2, itx 2⟩, ⟨4, itx 1⟩]
theorem sample_f : D.metrolablaw26_Sample.f = some samp := by
 unfold D.metrolablaw26_Sample.f samp
 rw [one_text, two_text]
theorem chk1 : chk (itx 1) = 0 := chk_small (by decide)
theorem chk2 : chk (itx 2) = 0 := chk_small (by decide)
theorem samp_prs : prs samp = [(1, itx 1), (2, itx 2), (4, itx 1)] := rfl
theorem samp_dck : dck (prs samp) = 0 := by
 rw [samp_prs]
 simp [dck, dckl, dck1, chk1, chk2, ival_itx]
theorem samp_sz : szs samp := by
 intro x hx
 have h1 := itx_size_le 1 (by decide) (by decide)
 have h2 := itx_size_le 2 (by decide) (by decide)
 simp only [samp, List.mem_cons, List.not_mem_nil, or_false] at hx
 rcases hx with rfl | rfl | rfl <;> simp only <;> omega
theorem samp_fine : Fine samp := by
 refine ⟨samp_sz, fun _ x hx => ?_, by decide⟩
 rw [samp_prs] at hx
 simp only [List.mem_cons, List.not_mem_nil, or_false] at hx
 rcases hx with rfl | rfl | rfl <;> simp only [ival_itx] <;> decide
theorem samp_tot : totw (prs samp) = 4 := by rw [samp_prs]; simp [totw, sumf, fW, ival_itx]
theorem samp_m1 : sumf (fM 1) (prs samp) = 9 := by rw [samp_prs]; simp [sumf, fM, ival_itx]
theorem samp_m2 : sumf (fM 2) (prs samp) = 25 := by rw [samp_prs]; simp [sumf, fM, ival_itx]
theorem samp_mean : meanR (prs samp) = (rtx (Rat.divInt 9 4), 0) := by
 unfold meanR distR meanq
 rw [if_pos samp_dck, samp_m1, samp_tot]
theorem samp_var : varR (prs samp) = (rtx (Rat.divInt 19 16), 0) := by
 unfold varR distR varq momq
 rw [if_pos samp_dck, samp_m1, samp_m2, samp_tot, Rat.divInt_mul_divInt, Rat.divInt_sub_divInt _ _ (by decide) (by decide)]
 rw [(Rat.divInt_eq_divInt_iff (n₂ := 19) (d₂ := 16) (by decide) (by decide)).2 (by decide)]
theorem samp_prob (lo hi : Int) (h : lo ≤ hi) : probR (prs samp) lo hi = (rtx (Rat.divInt (sumf (fP lo hi) (prs samp)) 4), 0) := by
 rw [probR_ok samp_dck h]; unfold probq; rw [samp_tot]
theorem rtx_low {u v : Int} (hv : 1 < v) (h : gcdv u v = 1) : (rtx (Rat.divInt u v)).toList = (itx u).toList ++ 47 :: (itx v).toList := by
 obtain ⟨h1, h2⟩ := divInt_low (by omega) h
 rw [Lib.toList_data, rtx_list, h1, h2, if_neg (by omega), Lib.toList_data, Lib.toList_data]
theorem itx_one_digit (n : Nat) (h : n < 10) : (itx (n : Int)).toList = [UInt8.ofNat (48 + n)] := by rw [Lib.toList_data, itx_list, itoa_nat, dd_small h]
theorem itx_two_digits (n : Nat) (h : ¬ n < 10) (h2 : n / 10 < 10) : (itx (n : Int)).toList = [UInt8.ofNat (48 + n / 10), UInt8.ofNat (48 + n % 10)] := by rw [Lib.toList_data, itx_list, itoa_nat, dd_big h, dd_small h2]; rfl
theorem txt_mean : (rtx (Rat.divInt 9 4)).toList = ([57, 47, 52] : List UInt8) := by
 rw [rtx_low (by decide) (by decide), show (9 : Int) = ((9 : Nat) : Int) from rfl, show (4 : Int) = ((4 : Nat) : Int) from rfl, itx_one_digit 9 (by decide), itx_one_digit 4 (by decide)]; rfl
theorem txt_var : (rtx (Rat.divInt 19 16)).toList = ([49, 57, 47, 49, 54] : List UInt8) := by
 rw [rtx_low (by decide) (by decide), show (19 : Int) = ((19 : Nat) : Int) from rfl, show (16 : Int) = ((16 : Nat) : Int) from rfl, itx_two_digits 19 (by decide) (by decide), itx_two_digits 16 (by decide) (by decide)]; rfl
theorem txt_half : (rtx (Rat.divInt 1 2)).toList = ([49, 47, 50] : List UInt8) := by
 rw [rtx_low (by decide) (by decide), show (1 : Int) = ((1 : Nat) : Int) from rfl, show (2 : Int) = ((2 : Nat) : Int) from rfl, itx_one_digit 1 (by decide), itx_one_digit 2 (by decide)]; rfl
theorem txt_45 : (⟨#[52, 47, 53]⟩ : ByteArray) = rtx (Rat.divInt 4 5) := by
 have h : (rtx (Rat.divInt 4 5)).toList = ([52, 47, 53] : List UInt8) := by
  rw [rtx_low (by decide) (by decide), show (4 : Int) = ((4 : Nat) : Int) from rfl, show (5 : Int) = ((5 : Nat) : Int) from rfl, itx_one_digit 4 (by decide), itx_one_digit 5 (by decide)]; rfl
 rw [Lib.toList_data] at h
 rw [← Lib.mk_data (rtx (Rat.divInt 4 5)), h]
theorem bd45 : Bd 31 (Rat.divInt 4 5) := bd_divInt (by decide) (by decide) (by decide)
theorem cmp_divInt {u v x y : Int} (hv : 0 < v) (hy : 0 < y) (g1 : gcdv u v = 1) (g2 : gcdv x y = 1) : cmpq (Rat.divInt u v) (Rat.divInt x y) = cmpv (u * y) (x * v) := by
 unfold cmpq
 obtain ⟨a1, a2⟩ := divInt_low hv g1
 obtain ⟨b1, b2⟩ := divInt_low hy g2
 rw [a1, a2, b1, b2]
theorem sum_p1 : sumf (fP (-1048576) 1) (prs samp) = 1 := by rw [samp_prs]; simp [sumf, fP, pick, ival_itx]
theorem sum_p2 : sumf (fP (-1048576) 2) (prs samp) = 3 := by rw [samp_prs]; simp [sumf, fP, pick, ival_itx]
theorem sum_p4 : sumf (fP (-1048576) 4) (prs samp) = 4 := by rw [samp_prs]; simp [sumf, fP, pick, ival_itx]
theorem sum_p23 : sumf (fP 2 3) (prs samp) = 2 := by rw [samp_prs]; simp [sumf, fP, pick, ival_itx]
theorem dq_round (l : List S60) (h : Fine l) (h0 : dck (prs l) = 0) (q : Rat) (hq : Bd 31 q) (i : Nat) (hi : i < l.length) (hi2 : i ≤ 4096) (hv : -1048576 ≤ l[i].f0) (k : Nat) :
  D.dist_Quantile.l0 (k + 1) l (rtx q) l (l.length : Int) i = if cmpq (probq (prs l) (-1048576) l[i].f0) q ≥ 0 then some (l[i].f0, 0) else D.dist_Quantile.l0 k l (rtx q) l (l.length : Int) ((i + 1 : Nat) : Int) := by
 have hgd := h.gd h0
 have hg := prs_get l i hi
 have e1 : D.dist_Probability.f l (-1048576) l[i].f0 = some (rtx (probq (prs l) (-1048576) l[i].f0), 0) := by rw [dprob_f l h, probR_ok h0 hv]
 have e2 := compare_rtx (hgd.prob (-1048576) l[i].f0) hq (by decide) (by decide) (by decide)
 rw [D.dist_Quantile.l0, if_pos (by omega), if_pos (by omega), if_pos (by omega), hg, e1, Option.bind_some, if_pos rfl, e2, Option.bind_some, if_pos rfl, IntWalk.wrap64_in _ (by omega)]
 rfl
theorem samp_quant : Runs (fun k => D.dist_Quantile.f k samp (⟨#[52, 47, 53]⟩ : ByteArray)) (4, 0) := by
 rw [txt_45]
 have hb := bd45
 have hr := hb.rchk (by decide)
 have c1 : D.ratio_Check.f (rtx (Rat.divInt 4 5)) = some (rchk (rtx (Rat.divInt 4 5))) := by
  unfold D.ratio_Check.f; rw [if_pos (by have := rtx_size2 hb (by decide); omega)]
 have k1 := compare_rtx hb zero_bd (by decide) (by decide) (by decide)
 have k2 := compare_rtx hb one_bd (by decide) (by decide) (by decide)
 rw [rtx_zero] at k1
 rw [rtx_one] at k2
 have g45 : gcdv 4 5 = 1 := by decide
 have v1 : cmpq (Rat.divInt 4 5) 0 = 1 := by rw [show (0 : Rat) = Rat.divInt 0 1 from rfl, cmp_divInt (by decide) (by decide) g45 (by decide)]; decide
 have v2 : cmpq (Rat.divInt 4 5) 1 = -1 := by rw [show (1 : Rat) = Rat.divInt 1 1 from rfl, cmp_divInt (by decide) (by decide) g45 (by decide)]; decide
 have q1 : cmpq (probq (prs samp) (-1048576) 1) (Rat.divInt 4 5) = -1 := by unfold probq; rw [sum_p1, samp_tot, cmp_divInt (by decide) (by decide) (by decide) g45]; decide
 have q2 : cmpq (probq (prs samp) (-1048576) 2) (Rat.divInt 4 5) = -1 := by unfold probq; rw [sum_p2, samp_tot, cmp_divInt (by decide) (by decide) (by decide) g45]; decide
 have q3 : cmpq (probq (prs samp) (-1048576) 4) (Rat.divInt 4 5) = 1 := by
  unfold probq
  rw [sum_p4, samp_tot, (Rat.divInt_eq_divInt_iff (n₂ := 1) (d₂ := 1) (by decide) (by decide)).2 (by decide), cmp_divInt (by decide) (by decide) (by decide) g45]; decide
 unfold D.dist_Quantile.f
 rw [dcheck_f samp samp_fine]
 simp only [Option.bind_some]
 refine Runs.pos samp_dck ?_
 rw [c1]; simp only [Option.bind_some]
 refine Runs.pos hr ?_
 rw [k1, k2]; simp only [Option.bind_some, v1, v2]
 refine Runs.neg (by decide) ?_
 refine Runs.succ (Runs.succ (Runs.succ (Runs.succ (Runs.pure _) (g := fun k => D.dist_Quantile.l0 k samp (rtx (Rat.divInt 4 5)) samp (samp.length : Int) ((2 : Nat) : Int)) fun k => ?_) (g := fun k => D.dist_Quantile.l0 k samp (rtx (Rat.divInt 4 5)) samp (samp.length : Int) ((1 : Nat) : Int)) fun k => ?_) (g := fun k => D.dist_Quantile.l0 k samp (rtx (Rat.divInt 4 5)) samp (samp.length : Int) ((0 : Nat) : Int)) fun k => ?_) fun k => ?_
 ·rw [dq_round samp samp_fine samp_dck _ hb 2 (by decide) (by decide) (by decide)]
  rw [show (samp[2]'(by decide)).f0 = 4 from rfl, q3, if_pos (by decide)]
 ·rw [dq_round samp samp_fine samp_dck _ hb 1 (by decide) (by decide) (by decide)]
  rw [show (samp[1]'(by decide)).f0 = 2 from rfl, q2, if_neg (by decide)]
 ·rw [dq_round samp samp_fine samp_dck _ hb 0 (by decide) (by decide) (by decide)]
  rw [show (samp[0]'(by decide)).f0 = 1 from rfl, q1, if_neg (by decide)]
 ·rw [D.dist_Quantile.j0, if_neg (by decide)]; rfl
end Go.Proofs.YtkdpcgmnkifbbaaGreatDoor
end
section
namespace Go.Proofs.YtkdpcgmnkifbbaaGreatDoor
open Go.RowKit Go.Proofs.YtkdpcgmnkifbbaaGreatDoorW.PrintWords Go.Proofs.YtkdpcgmnkifbbaaGreatDoorW.PrintMore
open D (S60 prs)
theorem mul_ev {u v : Int} {e : Nat} (hu : u.natAbs < 10 ^ e) (hv : v.natAbs < 10 ^ e) (hw : (u * v).natAbs < 10 ^ e) (he : e ≤ 1024) : D.whole_Mul.f (itx u) (itx v) = some (itx (u * v), 0) := by
 have h1 := chk_fits (fits_exp2 hu he)
 have h2 := chk_fits (fits_exp2 hv he)
 have s1 := chk_size h1
 have s2 := chk_size h2
 unfold D.whole_Mul.f
 rw [if_pos ⟨by omega, by omega⟩, two_go h1 h2, ival_itx, ival_itx, kept_fits (fits_exp2 hw he)]
def ppow (a : Int) (n : Nat) : List ByteArray := (List.range n).map fun j => itx (a ^ j)
theorem ppow_len (a : Int) (n : Nat) : (ppow a n).length = n := by unfold ppow; simp
theorem ppow_succ (a : Int) (n : Nat) : ppow a (n + 1) = ppow a n ++ [itx (a ^ n)] := by unfold ppow; rw [List.range_succ, List.map_append]; rfl
theorem ppow_at (a : Int) (n j : Nat) (h : j < n) : rdOf ByteArray.empty (ppow a n) (j : Int) = itx (a ^ j) := by
 unfold rdOf ppow
 rw [Int.toNat_natCast]
 simp [List.getD, h]
theorem pow_bd {a : Int} (h0 : 0 ≤ a) (h1 : a ≤ 1048576) {j : Nat} (hj : j ≤ 30) : (a ^ j).natAbs < 10 ^ 200 := by
 rw [Int.natAbs_pow]
 have h2 : a.natAbs ^ j ≤ 1048576 ^ j := Nat.pow_le_pow_left (by omega) j
 have h3 : 1048576 ^ j ≤ 1048576 ^ 30 := Nat.pow_le_pow_right (by decide) hj
 exact Nat.lt_of_le_of_lt (Nat.le_trans h2 h3) (by decide)
theorem dof_f (n : Int) (h0 : -9223372036854775808 ≤ n) (h1 : n ≤ 9223372036854775807) : D.whole_Of.f n = some (itx n) := of_f n h0 h1
theorem powers_l0 (a : Int) (n : Nat) (h0 : 0 ≤ a) (h1 : a ≤ 1048576) (hn : n ≤ 30) (d i : Nat) (hd : i + d = n) : Runs (fun k => D.dist_powers.l0 k a (ppow a (i + 1)) n i) (ppow a (n + 1), 0) := by
 induction d generalizing i with
 | zero =>
  have hi : i = n := by omega
  subst hi
  refine Runs.succ (Runs.pure _) fun k => ?_
  rw [D.dist_powers.l0, if_neg (by omega)]
 | succ d ih =>
  have hn2 := ih (i + 1) (by omega)
  rw [ppow_succ a (i + 1)] at hn2
  have hm := mul_ev (u := a ^ i) (v := a) (e := 200) (pow_bd h0 h1 (by omega)) (Nat.lt_of_le_of_lt (show a.natAbs ≤ 1048576 by omega) (by decide)) (by rw [← Int.pow_succ]; exact pow_bd h0 h1 (by omega)) (by decide)
  rw [← Int.pow_succ] at hm
  refine Runs.succ hn2 fun k => ?_
  rw [D.dist_powers.l0, if_pos (by omega), if_pos (by omega), ppow_len, if_pos (by omega), dof_f a (by omega) (by omega), Option.bind_some, ppow_at _ _ _ (by omega), hm, Option.bind_some, if_pos rfl, if_pos (by omega), IntWalk.wrap64_in _ (by omega)]
  rfl
theorem powers_run (a : Int) (n : Nat) (h0 : 0 ≤ a) (h1 : a ≤ 1048576) (hn : n ≤ 30) : Runs (fun k => D.dist_powers.f k a n) (ppow a (n + 1), 0) := by
 have h := powers_l0 a n h0 h1 hn n 0 (by omega)
 have e : ppow a (0 + 1) = [(⟨#[49]⟩ : ByteArray)] := by rw [ppow_succ, Int.pow_zero, one_text]; rfl
 rw [e] at h
 exact h
theorem pw10 {x a b : Nat} (h : x < 10 ^ a) (hab : a ≤ b) : x < 10 ^ b := Nat.lt_of_lt_of_le h (Nat.pow_le_pow_right (by decide) hab)
theorem wrap01 : wrap64 ((0 : Int) + 1) = 1 := by rw [IntWalk.wrap64_in _ (by decide)]; rfl
theorem wrap12 : wrap64 ((1 : Int) + 1) = 2 := by rw [IntWalk.wrap64_in _ (by decide)]; rfl
theorem wrap23 : wrap64 ((2 : Int) + 1) = 3 := by rw [IntWalk.wrap64_in _ (by decide)]; rfl
theorem one_lt_pow10 {e : Nat} (h : 0 < e) : (1 : Int).natAbs < 10 ^ e := Nat.lt_of_lt_of_le (show (1 : Int).natAbs < 10 ^ 1 by decide) (Nat.pow_le_pow_right (by decide) h)
theorem mul_lt_pow2 {u v : Int} {a b c : Nat} (hc : a + b = c) (hu : u.natAbs < 10 ^ a) (hv : v.natAbs < 10 ^ b) : (u * v).natAbs < 10 ^ c := by
 subst hc; exact mul_lt_pow hu hv
theorem product3_run (b u v : Int) (hb : b.natAbs < 10 ^ 200) (hu : u.natAbs < 10 ^ 200) (hv : v.natAbs < 10 ^ 200) : Runs (fun k => D.dist_product.f k [itx b, itx u, itx v]) (itx (b * u * v), 0) := by
 have big : ∀ {x : Int}, x.natAbs < 10 ^ 200 → x.natAbs < 10 ^ 600 := fun h => pw10 (b := 600) h (by decide)
 have big6 : ∀ {x : Int}, x.natAbs < 10 ^ 400 → x.natAbs < 10 ^ 600 := fun h => pw10 (b := 600) h (by decide)
 have h2 : (b * u).natAbs < 10 ^ 400 := mul_lt_pow2 (c := 400) rfl hb hu
 have h3 : (b * u * v).natAbs < 10 ^ 600 := mul_lt_pow2 (c := 600) rfl h2 hv
 have one9 := one_lt_pow10 (e := 600) (by decide)
 have m1 := mul_ev (u := 1) (v := b) one9 (big hb) (by rw [Int.one_mul]; exact big hb) (by decide)
 have m2 := mul_ev (u := b) (v := u) (big hb) (big hu) (big6 h2) (by decide)
 have m3 := mul_ev (u := b * u) (v := v) (big6 h2) (big hv) h3 (by decide)
 rw [Int.one_mul, ← one_text] at m1
 refine Runs.congr (f := fun k => D.dist_product.l0 k (⟨#[49]⟩ : ByteArray) [itx b, itx u, itx v] 3 0) ?_ fun k => rfl
 refine Runs.succ (Runs.succ (Runs.succ (Runs.succ (Runs.pure _) (g := fun k => D.dist_product.l0 k (itx (b * u * v)) [itx b, itx u, itx v] 3 3) fun k => ?_) (g := fun k => D.dist_product.l0 k (itx (b * u)) [itx b, itx u, itx v] 3 2) fun k => ?_) (g := fun k => D.dist_product.l0 k (itx b) [itx b, itx u, itx v] 3 1) fun k => ?_) fun k => ?_
 ·rw [D.dist_product.l0, if_neg (by decide)]
 ·rw [D.dist_product.l0, if_pos (by decide), if_pos (by decide), if_pos (by simp), show rdOf ByteArray.empty [itx b, itx u, itx v] 2 = itx v from rfl, m3, Option.bind_some, if_pos rfl, wrap23]
 ·rw [D.dist_product.l0, if_pos (by decide), if_pos (by decide), if_pos (by simp), show rdOf ByteArray.empty [itx b, itx u, itx v] 1 = itx u from rfl, m2, Option.bind_some, if_pos rfl, wrap12]
 ·rw [D.dist_product.l0, if_pos (by decide), if_pos (by decide), if_pos (by simp), show rdOf ByteArray.empty [itx b, itx u, itx v] 0 = itx b from rfl, m1, Option.bind_some, if_pos rfl, wrap01]
def binw (n : Nat) (p r : Int) (k : Nat) : Int := (ch n k : Nat) * p ^ k * r ^ (n - k)
def binl (n : Nat) (p r : Int) : Nat → List S60
 | 0 => []
 | k + 1 => if binw n p r k = 0 then binl n p r k else binl n p r k ++ [⟨(k : Int), itx (binw n p r k)⟩]
theorem binl_len (n : Nat) (p r : Int) : ∀ k, (binl n p r k).length ≤ k
 | 0 => Nat.le_refl _
 | k + 1 => by
  unfold binl
  have := binl_len n p r k
  split
  ·omega
  ·rw [List.length_append, List.length_singleton]; omega
theorem dbin_f (n k : Nat) (hk : k ≤ n) (hn : n ≤ 30) : D.whole_Binomial.f n k = some (itx (ch n k : Nat), 0) := by
 unfold D.whole_Binomial.f
 rw [if_pos ⟨by omega, by omega, by omega⟩, Int.toNat_natCast, Int.toNat_natCast]
theorem dbin_l0 (n : Nat) (p r : Int) (hn : n ≤ 30) (hp0 : 0 ≤ p) (hp1 : p ≤ 1048576) (hr0 : 0 ≤ r) (hr1 : r ≤ 1048576) (d i : Nat) (hd : i + d = n + 1) :
  Runs (fun k => D.dist_Binomial.l0 k n (ppow p (n + 1)) (ppow r (n + 1)) (binl n p r i) ((n + 1 : Nat) : Int) i) (binl n p r (n + 1), 0) := by
 induction d generalizing i with
 | zero =>
  have hi : i = n + 1 := by omega
  subst hi
  refine Runs.succ (Runs.pure _) fun k => ?_
  rw [D.dist_Binomial.l0, if_neg (by omega)]
 | succ d ih =>
  have hin : i ≤ n := by omega
  have hnx := ih (i + 1) (by omega)
  have hch : (((ch n i : Nat) : Int)).natAbs < 10 ^ 200 := by
   rw [Int.natAbs_natCast]; exact Nat.lt_of_le_of_lt (ch_small hn) (by decide)
  have hpr := product3_run ((ch n i : Nat) : Int) (p ^ i) (r ^ (n - i)) hch (pow_bd hp0 hp1 (by omega)) (pow_bd hr0 hr1 (by omega))
  have w1 : wrap64 ((n : Int) - (i : Int)) = ((n - i : Nat) : Int) := by rw [IntWalk.wrap64_in _ (by omega)]; omega
  have w2 : wrap64 ((i : Int) + 1) = ((i + 1 : Nat) : Int) := by rw [IntWalk.wrap64_in _ (by omega)]; omega
  have hbl := binl_len n p r i
  refine Runs.succ (Runs.bind (f := fun k bt143 => (if bt143.2 = 0 then (if bt143.1.toList = ([48] : List UInt8) then (D.dist_Binomial.l0 k n (ppow p (n + 1)) (ppow r (n + 1)) (binl n p r i) ((n + 1 : Nat) : Int) ((i + 1 : Nat) : Int)) else (if (binl n p r i).length < 5864062014805 then (D.dist_Binomial.l0 k n (ppow p (n + 1)) (ppow r (n + 1)) (binl n p r i ++ [(⟨(i : Int), bt143.1⟩ : S60)]) ((n + 1 : Nat) : Int) ((i + 1 : Nat) : Int)) else (none))) else (some (([] : List (S60)), bt143.2)))) hpr ?_) fun k => ?_
  ·refine Runs.pos rfl ?_
   have e : ((ch n i : Nat) : Int) * p ^ i * r ^ (n - i) = binw n p r i := rfl
   rw [e]
   simp only [itx_zero_list]
   unfold binl at hnx
   by_cases h0 : binw n p r i = 0
   ·rw [if_pos h0] at hnx
    exact Runs.pos h0 hnx
   ·rw [if_neg h0] at hnx
    exact Runs.neg h0 (Runs.pos (by omega) hnx)
  ·rw [D.dist_Binomial.l0, if_pos (by omega), dbin_f n i hin hn, Option.bind_some, if_pos rfl, if_pos (by omega), ppow_len, if_pos (by omega), w1, if_pos (by omega), ppow_len, if_pos (by omega), ppow_at _ _ _ (by omega), ppow_at _ _ _ (by omega), w2]
theorem dbin_run (n : Nat) (p q : Int) (hn : n ≤ 30) (hq : 1 ≤ q) (hq1 : q ≤ 1048576) (hp : 0 ≤ p) (hpq : p ≤ q) : Runs (fun k => D.dist_Binomial.f k n p q) (binl n p (q - p) (n + 1), 0) := by
 have h1 := powers_run p n hp (by omega) hn
 have h2 := powers_run (q - p) n (by omega) (by omega) hn
 have h3 := dbin_l0 n p (q - p) hn hp (by omega) (by omega) (by omega) (n + 1) 0 (by omega)
 have w1 : wrap64 (q - p) = q - p := IntWalk.wrap64_in _ (by omega)
 have w2 : wrap64 ((n : Int) + 1) = ((n + 1 : Nat) : Int) := by rw [IntWalk.wrap64_in _ (by omega)]; omega
 refine Runs.congr (Runs.succ (g := fun k => D.dist_Binomial.j0 k n p q false) (Runs.bind (f := fun k bt128 => (if bt128.2 = 0 then ((D.dist_powers.f k (q - p) n).bind fun bt132 => (if bt132.2 = 0 then (D.dist_Binomial.l0 k n bt128.1 bt132.1 ([] : List (S60)) ((n + 1 : Nat) : Int) 0) else (some (([] : List (S60)), bt132.2)))) else (some (([] : List (S60)), bt128.2)))) h1 ?_) fun k => ?_) fun k => ?_
 ·refine Runs.pos rfl ?_
  refine Runs.bind h2 ?_
  exact Runs.pos rfl h3
 ·rw [D.dist_Binomial.j0, if_neg (by decide), w1, w2]
 ·unfold D.dist_Binomial.f
  rw [if_neg (by omega), if_neg (by omega), if_neg (by omega), if_neg (by omega), if_neg (by omega), decide_eq_false (by omega)]
theorem same_l0 (l : List S60) (hl : l.length ≤ 4611686018427387904) (d i : Nat) (hd : i + d = l.length) : Runs (fun k => D.metrolabref26_Same.l0 k l l i) true := by
 induction d generalizing i with
 | zero =>
  refine Runs.succ (Runs.pure _) fun k => ?_
  rw [D.metrolabref26_Same.l0, if_neg (by omega)]
 | succ d ih =>
  refine Runs.succ (ih (i + 1) (by omega)) fun k => ?_
  rw [D.metrolabref26_Same.l0, if_pos (by omega), if_pos (by omega), if_pos (by omega), if_neg (by simp), IntWalk.wrap64_in _ (by omega)]; rfl
theorem same_run (l : List S60) (hl : l.length ≤ 4611686018427387904) : Runs (fun k => D.metrolabref26_Same.f k l l) true := by
 unfold D.metrolabref26_Same.f
 exact Runs.pos rfl (same_l0 l hl l.length 0 (by omega))
theorem dwithin_f (n : Int) : D.dist_within.f n = some (decide (-1048576 ≤ n ∧ n ≤ 1048576)) := by
 unfold D.dist_within.f
 by_cases h : n ≥ -1048576
 ·rw [if_pos h]
  by_cases h2 : n ≤ 1048576
  ·rw [decide_eq_true h2, decide_eq_true ⟨h, h2⟩]
  ·rw [decide_eq_false h2, decide_eq_false (fun h3 => h2 h3.2)]
 ·rw [if_neg h, decide_eq_false (fun h3 => h h3.1)]
theorem sc_round (m b u v : Int) (l acc : List S60) (i : Nat) (hi : i < l.length) (hl : l.length ≤ 4096) (ha : acc.length ≤ 4096) (hu : m * l[i].f0 = u) (hv : u + b = v) (hu0 : -9000000000000000000 ≤ u ∧ u ≤ 9000000000000000000) (hin : -1048576 ≤ v ∧ v ≤ 1048576) (k : Nat) :
  D.dist_Scale.l0 (k + 1) m b acc l (l.length : Int) i = D.dist_Scale.l0 k m b (acc ++ [⟨v, l[i].f1⟩]) l (l.length : Int) ((i + 1 : Nat) : Int) := by
 have hg := prs_get l i hi
 rw [D.dist_Scale.l0, if_pos (by omega), if_pos (by omega), if_pos (by omega), hg, hu, IntWalk.wrap64_in u (by omega), hv, IntWalk.wrap64_in v (by omega), dwithin_f, Option.bind_some, decide_eq_true hin, if_pos rfl, if_pos (by omega), IntWalk.wrap64_in _ (by omega)]
 rfl
theorem rev3 (a b c : S60) : Runs (fun k => D.api_Weighted.f k [a, b, c]) [c, b, a] := by
 have w1 : wrap64 ((([a, b, c] : List S60).length : Int) - 1) = 2 := by rw [IntWalk.wrap64_in _ (by simp)]; rfl
 have w2 : wrap64 ((0 : Int) + 1) = 1 := by rw [IntWalk.wrap64_in _ (by decide)]; rfl
 have w3 : wrap64 ((2 : Int) - 1) = 1 := by rw [IntWalk.wrap64_in _ (by decide)]; rfl
 refine Runs.congr (Runs.succ (Runs.succ (Runs.pure _) (g := fun k => D.api_Weighted.l0 k [c, b, a] 1 1) fun k => ?_) (g := fun k => D.api_Weighted.l0 k [a, b, c] 0 2) fun k => ?_) fun k => ?_
 ·rw [D.api_Weighted.l0, if_neg (by decide)]
 ·rw [D.api_Weighted.l0, if_pos (by decide), if_pos (by decide), if_pos (by simp), if_pos (by decide), if_pos (by simp), w2, w3]; rfl
 ·unfold D.api_Weighted.f; rw [w1]
theorem samp_scale : Runs (fun k => D.dist_Scale.f k samp (-2) 10) ([⟨2, itx 1⟩, ⟨6, itx 2⟩, ⟨8, itx 1⟩], 0) := by
 unfold D.dist_Scale.f
 rw [dcheck_f samp samp_fine, dwithin_f, dwithin_f]
 simp only [Option.bind_some]
 refine Runs.pos samp_dck (Runs.neg (by decide) (Runs.pos (by decide) (Runs.pos (by decide) ?_)))
 refine Runs.succ (Runs.succ (Runs.succ (Runs.succ (Runs.bind (f := fun _ t => some (t, (0 : Int))) (rev3 ⟨8, itx 1⟩ ⟨6, itx 2⟩ ⟨2, itx 1⟩) (Runs.pure _)) (g := fun k => D.dist_Scale.l0 k (-2) 10 [⟨8, itx 1⟩, ⟨6, itx 2⟩, ⟨2, itx 1⟩] samp (samp.length : Int) ((3 : Nat) : Int)) fun k => ?_) (g := fun k => D.dist_Scale.l0 k (-2) 10 [⟨8, itx 1⟩, ⟨6, itx 2⟩] samp (samp.length : Int) ((2 : Nat) : Int)) fun k => ?_) (g := fun k => D.dist_Scale.l0 k (-2) 10 [⟨8, itx 1⟩] samp (samp.length : Int) ((1 : Nat) : Int)) fun k => ?_) fun k => ?_
 ·rw [D.dist_Scale.l0, if_neg (by decide), if_pos (by decide)]
 ·exact sc_round (-2) 10 (-8) 2 samp _ 2 (by decide) (by decide) (by simp) (by decide) (by decide) (by decide) (by decide) k
 ·exact sc_round (-2) 10 (-4) 6 samp _ 1 (by decide) (by decide) (by simp) (by decide) (by decide) (by decide) (by decide) k
 ·exact sc_round (-2) 10 (-2) 8 samp _ 0 (by decide) (by decide) (by simp) (by decide) (by decide) (by decide) (by decide) k
theorem bin_ex : binl 3 1 2 4 = [⟨0, itx 8⟩, ⟨1, itx 12⟩, ⟨2, itx 6⟩, ⟨3, itx 1⟩] := by
 have e0 : binw 3 1 2 0 = 8 := by decide
 have e1 : binw 3 1 2 1 = 12 := by decide
 have e2 : binw 3 1 2 2 = 6 := by decide
 have e3 : binw 3 1 2 3 = 1 := by decide
 simp [binl, e0, e1, e2, e3]
theorem one_digit (n : Nat) (h : n < 10) : (⟨#[UInt8.ofNat (48 + n)]⟩ : ByteArray) = itx (n : Int) := by
 have := itx_one_digit n h
 rw [Lib.toList_data] at this
 rw [← Lib.mk_data (itx (n : Int)), this]
theorem twelve_text : (⟨#[49, 50]⟩ : ByteArray) = itx 12 := by
 have := itx_two_digits 12 (by decide) (by decide)
 rw [Lib.toList_data] at this
 rw [show (12 : Int) = ((12 : Nat) : Int) from rfl, ← Lib.mk_data (itx ((12 : Nat) : Int)), this]; rfl
theorem awake_run : Runs (fun k => D.metrolablaw26_awake.f k) true := by
 have m := samp_fine.ok
 have f1 : D.dist_Mean.f samp = some (rtx (Rat.divInt 9 4), 0) := by unfold D.dist_Mean.f; rw [if_pos m, samp_mean]
 have f2 : D.dist_Variance.f samp = some (rtx (Rat.divInt 19 16), 0) := by unfold D.dist_Variance.f; rw [if_pos m, samp_var]
 have f3 : D.dist_Probability.f samp 2 3 = some (rtx (Rat.divInt 1 2), 0) := by
  rw [dprob_f samp samp_fine, samp_prob 2 3 (by decide), sum_p23, (Rat.divInt_eq_divInt_iff (n₂ := 1) (d₂ := 2) (by decide) (by decide)).2 (by decide)]
 have h8 : (⟨#[56]⟩ : ByteArray) = itx 8 := one_digit 8 (by decide)
 have h6 : (⟨#[54]⟩ : ByteArray) = itx 6 := one_digit 6 (by decide)
 have b := dbin_run 3 1 3 (by decide) (by decide) (by decide) (by decide) (by decide)
 rw [show (3 : Int) - 1 = 2 from rfl, bin_ex] at b
 unfold D.metrolablaw26_awake.f
 rw [sample_f]
 simp only [Option.bind_some, f1, f2, f3]
 refine Runs.bind samp_quant (Runs.bind b (Runs.bind samp_scale ?_))
 refine Runs.pos (by simp [wrap64]) ?_
 refine Runs.pos txt_mean (Runs.pos txt_var (Runs.pos txt_half (Runs.pos rfl ?_)))
 rw [h8, h6, twelve_text, one_text, two_text]
 refine Runs.bind (same_run _ (by simp)) (Runs.pos rfl ?_)
 exact Runs.bind (same_run _ (by simp)) (Runs.pure _)
end Go.Proofs.YtkdpcgmnkifbbaaGreatDoor
end
