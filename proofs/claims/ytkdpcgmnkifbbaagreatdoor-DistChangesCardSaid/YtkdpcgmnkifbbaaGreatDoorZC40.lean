/- Joined by a program of this session out of its texts, with only what the last theorem needs: Pt. No conditions but those stated. -/
import Derived.Test.YtkdpcgmnkifbbaaGreatDoorZC36
import Derived.Test.YtkdpcgmnkifbbaaGreatDoorZC39
set_option linter.unusedVariables false
set_option linter.unusedSimpArgs false
namespace Go.Proofs.YtkdpcgmnkifbbaaGreatDoorW.PrintMore
end Go.Proofs.YtkdpcgmnkifbbaaGreatDoorW.PrintMore
namespace Go.Proofs.YtkdpcgmnkifbbaaGreatDoorW.PrintWords
end Go.Proofs.YtkdpcgmnkifbbaaGreatDoorW.PrintWords
namespace Go.Proofs.YtkdpcgmnkifbbaaGreatDoor
open Go.RowKit Go.Proofs.YtkdpcgmnkifbbaaGreatDoorW.PrintWords Go.Proofs.YtkdpcgmnkifbbaaGreatDoorW.PrintMore
open D (S60 prs)
theorem rev_end (l : List S60) (n : Nat) (hn : l.length = n) (x0 : List S60) (i j : Nat) (hs : i + j + 1 = n) (h3 : x0.length = n) (h : ∀ t, t < n → x0[t]? = if t < i ∨ j < t then l[n - 1 - t]? else l[t]?) (hij : ¬ i < j) :
  Runs (fun k => D.api_Weighted.l0 k x0 i j) l.reverse := by
 have e : x0 = l.reverse := by
  apply List.ext_getElem?
  intro t
  by_cases ht : t < n
  ·rw [h t ht, List.getElem?_reverse (by omega), hn]
   split
   ·rfl
   ·have : n - 1 - t = t := by omega
    rw [this]
  ·rw [List.getElem?_eq_none (by omega), List.getElem?_eq_none (by rw [List.length_reverse]; omega)]
 rw [← e]
 refine Runs.succ (Runs.pure _) fun k => ?_
 rw [D.api_Weighted.l0, if_neg (by omega)]
theorem rev_l0 (l : List S60) (n : Nat) (hn : l.length = n) (h4 : n ≤ 4096) (d : Nat) : ∀ (x0 : List S60) (i j : Nat), j ≤ i + d → i + j + 1 = n → x0.length = n → (∀ t, t < n → x0[t]? = if t < i ∨ j < t then l[n - 1 - t]? else l[t]?) →
  Runs (fun k => D.api_Weighted.l0 k x0 i j) l.reverse := by
 induction d with
 | zero => intro x0 i j h1 h2 h3 h; exact rev_end l n hn x0 i j h2 h3 h (by omega)
 | succ d ih =>
  intro x0 i j h1 h2 h3 h
  by_cases hij : i < j
  ·have hi : i < x0.length := by omega
   have hj : j < x0.length := by omega
   have gi := prs_get x0 i hi
   have gj := prs_get x0 j hj
   have w1 : wrap64 ((i : Int) + 1) = ((i + 1 : Nat) : Int) := by rw [IntWalk.wrap64_in _ (by omega)]; omega
   have w2 : wrap64 ((j : Int) - 1) = ((j - 1 : Nat) : Int) := by rw [IntWalk.wrap64_in _ (by omega)]; omega
   have hxi := h i (by omega)
   have hxj := h j (by omega)
   rw [if_neg (by omega), List.getElem?_eq_getElem hi] at hxi
   rw [if_neg (by omega), List.getElem?_eq_getElem hj] at hxj
   refine Runs.succ (ih ((x0.set i x0[j]).set j x0[i]) (i + 1) (j - 1) (by omega) (by omega) (by rw [List.length_set, List.length_set]; exact h3) ?_) fun k => ?_
   ·intro t ht
    rw [List.getElem?_set, List.getElem?_set, List.length_set]
    by_cases e1 : j = t
    ·subst e1
     rw [if_pos rfl, if_pos hj, if_pos (by omega), show n - 1 - j = i by omega, ← hxi]
    ·rw [if_neg e1]
     by_cases e2 : i = t
     ·subst e2
      rw [if_pos rfl, if_pos hi, if_pos (by omega), show n - 1 - i = j by omega, ← hxj]
     ·rw [if_neg e2, h t ht]
      by_cases c : t < i ∨ j < t
      ·rw [if_pos c, if_pos (by omega)]
      ·rw [if_neg c, if_neg (by omega)]
   ·rw [D.api_Weighted.l0, if_pos (by omega), if_pos (by omega), if_pos (by omega), if_pos (by omega), if_pos (by omega), gi, gj, Int.toNat_natCast, Int.toNat_natCast, w1, w2]
  ·exact rev_end l n hn x0 i j h2 h3 h hij
theorem rev_run (l : List S60) (h4 : l.length ≤ 4096) : Runs (fun k => D.api_Weighted.f k l) l.reverse := by
 rcases Nat.eq_zero_or_pos l.length with h | h
 ·have : l = [] := List.length_eq_zero_iff.1 h
  subst this
  refine Runs.congr (Runs.succ (g := fun k => D.api_Weighted.l0 k [] 0 (-1)) (Runs.pure _) fun k => ?_) fun k => ?_
  ·rw [D.api_Weighted.l0, if_neg (by decide)]; rfl
  ·unfold D.api_Weighted.f
   rw [show wrap64 ((([] : List S60).length : Int) - 1) = -1 from by rw [IntWalk.wrap64_in _ (by simp)]; rfl]
 ·have w : wrap64 ((l.length : Int) - 1) = ((l.length - 1 : Nat) : Int) := by rw [IntWalk.wrap64_in _ (by omega)]; omega
  refine Runs.congr (rev_l0 l l.length rfl h4 l.length l 0 (l.length - 1) (by omega) (by omega) rfl fun t ht => ?_) fun k => ?_
  ·rw [if_neg (by omega)]
  ·unfold D.api_Weighted.f; rw [w]; rfl
theorem gl1 (x0 out : List S60) (hx : x0.length ≤ 4096) (ho : out.length ≤ 4096) (i : Nat) (hi : i < x0.length) (p : Nat) (hp : p ≤ out.length) (h1 : ∀ j (hj : j < out.length), j < p → out[j].f0 < x0[i].f0) (h2 : ∀ hp : p < out.length, x0[i].f0 < out[p].f0) (r : List S60)
  (hr : Runs (fun k => D.metrolabref26_Gathered.l0 k x0 (out.take p ++ x0[i] :: out.drop p) ((i + 1 : Nat) : Int)) r) (d : Nat) : ∀ j, j + d = p → Runs (fun k => D.metrolabref26_Gathered.l1 k x0 out i j) r := by
 have gi := prs_get x0 i hi
 have w1 : wrap64 ((i : Int) + 1) = ((i + 1 : Nat) : Int) := by rw [IntWalk.wrap64_in _ (by omega)]; omega
 induction d with
 | zero =>
  intro j hj
  have hjp : j = p := by omega
  subst hjp
  have t1 : (out.take j).length ≤ 4096 := by rw [List.length_take]; omega
  have t2 : (out.drop j).length ≤ 4096 := by rw [List.length_drop]; omega
  have e : (([] ++ out.take j) ++ [(⟨x0[i].f0, x0[i].f1⟩ : S60)]) ++ out.drop j = out.take j ++ x0[i] :: out.drop j := by rw [List.nil_append, List.append_assoc]; rfl
  refine Runs.succ hr fun k => ?_
  by_cases hpl : j < out.length
  ·have gp := prs_get out j hpl
   have := h2 hpl
   rw [D.metrolabref26_Gathered.l1, if_pos (by omega), if_pos (by omega), if_pos (by omega), if_pos (by omega), gi, gp, if_neg (by omega), if_neg (by omega), Option.bind_some, if_pos (by omega), Option.bind_some, Int.toNat_natCast, if_pos (by rw [List.length_nil]; omega), Option.bind_some, if_pos (by rw [List.nil_append]; omega), Option.bind_some, Option.bind_some, if_pos (by rw [List.length_append, List.nil_append, List.length_singleton]; omega), e, w1]
  ·rw [D.metrolabref26_Gathered.l1, if_neg (by omega), Option.bind_some, if_pos (by omega), if_pos (by omega), Option.bind_some, Int.toNat_natCast, if_pos (by rw [List.length_nil]; omega), Option.bind_some, if_pos (by omega), if_pos (by omega), if_pos (by rw [List.nil_append]; omega), gi, Option.bind_some, Option.bind_some, if_pos (by rw [List.length_append, List.nil_append, List.length_singleton]; omega), e, w1]
 | succ d ih =>
  intro j hj
  have hjl : j < out.length := by omega
  have gj := prs_get out j hjl
  have := h1 j hjl (by omega)
  have w2 : wrap64 ((j : Int) + 1) = ((j + 1 : Nat) : Int) := by rw [IntWalk.wrap64_in _ (by omega)]; omega
  refine Runs.succ (ih (j + 1) (by omega)) fun k => ?_
  rw [D.metrolabref26_Gathered.l1, if_pos (by omega), if_pos (by omega), if_pos (by omega), if_pos (by omega), gi, gj, if_pos (by omega), w2]
theorem gl2 (out : List S60) (ho : out.length ≤ 4096) (hw : ∀ x ∈ out, ¬ x.f1.toList = ([48] : List UInt8)) (d i : Nat) (hd : i + d = out.length) : Runs (fun k => D.metrolabref26_Gathered.l2 k out (out.take i) i) out := by
 induction d generalizing i with
 | zero =>
  rw [List.take_of_length_le (by omega)]
  refine Runs.succ (Runs.pure _) fun k => ?_
  rw [D.metrolabref26_Gathered.l2, if_neg (by omega)]
 | succ d ih =>
  have hil : i < out.length := by omega
  have gi := prs_get out i hil
  have t1 : (out.take i).length ≤ 4096 := by rw [List.length_take]; omega
  have w1 : wrap64 ((i : Int) + 1) = ((i + 1 : Nat) : Int) := by rw [IntWalk.wrap64_in _ (by omega)]; omega
  have hn := ih (i + 1) (by omega)
  rw [← List.take_append_getElem hil] at hn
  refine Runs.succ hn fun k => ?_
  rw [D.metrolabref26_Gathered.l2, if_pos (by omega), if_pos (by omega), gi, if_neg (hw _ (List.getElem_mem hil)), if_pos (by omega), w1]
theorem gath_asc (m : List S60) (hm : m.length ≤ 4096) (hs : ∀ i j (hj : j < m.length) (h : i < j), (m[i]'(by omega)).f0 < m[j].f0) (hw : ∀ x ∈ m, ¬ x.f1.toList = ([48] : List UInt8)) (d i : Nat) (hd : i + d = m.length) : Runs (fun k => D.metrolabref26_Gathered.l0 k m (m.take i) i) m := by
 induction d generalizing i with
 | zero =>
  rw [List.take_of_length_le (by omega)]
  have h2 := gl2 m hm hw m.length 0 (by omega)
  refine Runs.succ h2 fun k => ?_
  rw [D.metrolabref26_Gathered.l0, if_neg (by omega)]; rfl
 | succ d ih =>
  have hil : i < m.length := by omega
  have hlen : (m.take i).length = i := by rw [List.length_take]; omega
  have hn := ih (i + 1) (by omega)
  have e : (m.take i).take i ++ m[i] :: (m.take i).drop i = m.take (i + 1) := by
   rw [List.take_of_length_le (by omega), List.drop_of_length_le (by omega), List.take_append_getElem hil]
  have hl := gl1 m (m.take i) hm (by omega) i hil i (by omega) (fun j hj hji => by rw [List.getElem_take]; exact hs j i hil hji) (fun hp => by omega) m (by rw [e]; exact hn) i 0 (by omega)
  refine Runs.succ hl fun k => ?_
  rw [D.metrolabref26_Gathered.l0, if_pos (by omega)]; rfl
theorem gath_desc (m : List S60) (hm : m.length ≤ 4096) (hs : ∀ i j (hj : j < m.length) (h : i < j), m[j].f0 < (m[i]'(by omega)).f0) (hw : ∀ x ∈ m, ¬ x.f1.toList = ([48] : List UInt8)) (d i : Nat) (hd : i + d = m.length) : Runs (fun k => D.metrolabref26_Gathered.l0 k m (m.take i).reverse i) m.reverse := by
 induction d generalizing i with
 | zero =>
  rw [List.take_of_length_le (by omega)]
  have h2 := gl2 m.reverse (by rw [List.length_reverse]; exact hm) (fun x hx => hw x (List.mem_reverse.1 hx)) m.reverse.length 0 (by omega)
  refine Runs.succ h2 fun k => ?_
  rw [D.metrolabref26_Gathered.l0, if_neg (by omega)]; rfl
 | succ d ih =>
  have hil : i < m.length := by omega
  have hlen : (m.take i).length = i := by rw [List.length_take]; omega
  have hlr : (m.take i).reverse.length = i := by rw [List.length_reverse, hlen]
  have hn := ih (i + 1) (by omega)
  have e : (m.take i).reverse.take 0 ++ m[i] :: (m.take i).reverse.drop 0 = (m.take (i + 1)).reverse := by
   rw [← List.take_append_getElem hil, List.reverse_append]; rfl
  have hl := gl1 m (m.take i).reverse hm (by omega) i hil 0 (by omega) (fun j hj hji => by omega) (fun hp => by rw [List.getElem_reverse, List.getElem_take]; exact hs _ i hil (by omega)) m.reverse (by rw [e]; exact hn) 0 0 (by omega)
  refine Runs.succ hl fun k => ?_
  rw [D.metrolabref26_Gathered.l0, if_pos (by omega)]; rfl
def mv (q b : Int) (x : S60) : S60 := ⟨q * x.f0 + b, x.f1⟩
def allW (l : List S60) : Bool := l.all fun x => decide (-1048576 ≤ x.f0 ∧ x.f0 ≤ 1048576)
theorem mul_small {q v : Int} (hq : -1048576 ≤ q ∧ q ≤ 1048576) (hv : -1048576 ≤ v ∧ v ≤ 1048576) : -1099511627776 ≤ q * v ∧ q * v ≤ 1099511627776 := by
 have h : (q * v).natAbs ≤ 1048576 * 1048576 := by rw [Int.natAbs_mul]; exact Nat.mul_le_mul (by omega) (by omega)
 omega
theorem mv_wraps {q b v : Int} (hq : -1048576 ≤ q ∧ q ≤ 1048576) (hb : -1048576 ≤ b ∧ b ≤ 1048576) (hv : -1048576 ≤ v ∧ v ≤ 1048576) : wrap64 ((wrap64 (q * v)) + b) = q * v + b := by
 have := mul_small hq hv
 generalize q * v = z at *
 rw [IntWalk.wrap64_in z (by omega), IntWalk.wrap64_in _ (by omega)]
theorem gval2 {l : List S60} (h : Gd (prs l)) {i : Nat} (hi : i < l.length) : -1048576 ≤ l[i].f0 ∧ l[i].f0 ≤ 1048576 := by
 have := h.val _ (List.getElem_mem (show i < (prs l).length by rw [D.prs_len]; exact hi))
 rwa [prs_at l i hi] at this
theorem dscale_l0 (l : List S60) (h : Gd (prs l)) (q b : Int) (hq : -1048576 ≤ q ∧ q ≤ 1048576) (hb : -1048576 ≤ b ∧ b ≤ 1048576) (d i : Nat) (hd : i + d = l.length) :
  Runs (fun k => D.dist_Scale.l0 k q b ((l.map (mv q b)).take i) l (l.length : Int) i) (if allW ((l.map (mv q b)).drop i) = true then (if q < 0 then (l.map (mv q b)).reverse else l.map (mv q b), 0) else ([], 2)) := by
 have hpl := D.prs_len l
 have hll := h.len
 have hml : (l.map (mv q b)).length = l.length := List.length_map _
 induction d generalizing i with
 | zero =>
  rw [List.take_of_length_le (by omega), List.drop_of_length_le (by omega), if_pos (by rfl)]
  by_cases hn : q < 0
  ·rw [if_pos hn]
   refine Runs.succ (Runs.bind (f := fun _ t => some (t, (0 : Int))) (rev_run (l.map (mv q b)) (by omega)) (Runs.pure _)) fun k => ?_
   rw [D.dist_Scale.l0, if_neg (by omega), if_pos hn]
  ·rw [if_neg hn]
   refine Runs.succ (Runs.pure _) fun k => ?_
   rw [D.dist_Scale.l0, if_neg (by omega), if_neg hn]
 | succ d ih =>
  have hil : i < l.length := by omega
  have hg := prs_get l i hil
  have hv := gval2 h hil
  have hn := ih (i + 1) (by omega)
  have hme : (l.map (mv q b))[i]'(by omega) = mv q b l[i] := List.getElem_map _
  have t1 : ((l.map (mv q b)).take i).length ≤ 4096 := by rw [List.length_take]; omega
  have w1 : wrap64 ((i : Int) + 1) = ((i + 1 : Nat) : Int) := by rw [IntWalk.wrap64_in _ (by omega)]; omega
  have w2 := mv_wraps hq hb hv
  rw [List.drop_eq_getElem_cons (by omega), hme]
  rw [← List.take_append_getElem (by omega : i < (l.map (mv q b)).length), hme] at hn
  by_cases hin : -1048576 ≤ q * l[i].f0 + b ∧ q * l[i].f0 + b ≤ 1048576
  ·have e : allW (mv q b l[i] :: (l.map (mv q b)).drop (i + 1)) = allW ((l.map (mv q b)).drop (i + 1)) := by
    unfold allW
    rw [List.all_cons, show decide (-1048576 ≤ (mv q b l[i]).f0 ∧ (mv q b l[i]).f0 ≤ 1048576) = true from decide_eq_true hin, Bool.true_and]
   rw [e]
   refine Runs.succ hn fun k => ?_
   rw [D.dist_Scale.l0, if_pos (by omega), if_pos (by omega), if_pos (by omega), hg, w2, dwithin_f, Option.bind_some, decide_eq_true hin, if_pos rfl, if_pos (by omega), w1]; rfl
  ·have e : allW (mv q b l[i] :: (l.map (mv q b)).drop (i + 1)) = false := by
    unfold allW
    rw [List.all_cons, show decide (-1048576 ≤ (mv q b l[i]).f0 ∧ (mv q b l[i]).f0 ≤ 1048576) = false from decide_eq_false hin, Bool.false_and]
   rw [e, if_neg (by decide)]
   refine Runs.succ (Runs.pure _) fun k => ?_
   rw [D.dist_Scale.l0, if_pos (by omega), if_pos (by omega), if_pos (by omega), hg, w2, dwithin_f, Option.bind_some, decide_eq_false hin, if_neg (by decide)]
theorem moved_l0 (l : List S60) (h : Gd (prs l)) (q b : Int) (hq : -1048576 ≤ q ∧ q ≤ 1048576) (hb : -1048576 ≤ b ∧ b ≤ 1048576) (r : List S60) (hr : Runs (fun k => D.metrolabref26_Gathered.f k (l.map (mv q b))) r) (d i : Nat) (hd : i + d = l.length) :
  Runs (fun k => D.metrolabref26_Moved.l0 k l q b ((l.map (mv q b)).take i) i) r := by
 have hpl := D.prs_len l
 have hll := h.len
 have hml : (l.map (mv q b)).length = l.length := List.length_map _
 induction d generalizing i with
 | zero =>
  rw [List.take_of_length_le (by omega)]
  refine Runs.succ (Runs.bind (f := fun _ t => some t) hr (Runs.pure _)) fun k => ?_
  rw [D.metrolabref26_Moved.l0, if_neg (by omega)]
 | succ d ih =>
  have hil : i < l.length := by omega
  have hg := prs_get l i hil
  have hv := gval2 h hil
  have hn := ih (i + 1) (by omega)
  have hme : (l.map (mv q b))[i]'(by omega) = mv q b l[i] := List.getElem_map _
  have t1 : ((l.map (mv q b)).take i).length ≤ 4096 := by rw [List.length_take]; omega
  have w1 : wrap64 ((i : Int) + 1) = ((i + 1 : Nat) : Int) := by rw [IntWalk.wrap64_in _ (by omega)]; omega
  have w2 := mv_wraps hq hb hv
  rw [← List.take_append_getElem (by omega : i < (l.map (mv q b)).length), hme] at hn
  refine Runs.succ hn fun k => ?_
  rw [D.metrolabref26_Moved.l0, if_pos (by omega), if_pos (by omega), if_pos (by omega), hg, w2, w1]; rfl
theorem rscale_l0 (s : List S60) (hs : s.length ≤ 4096) (d i : Nat) (hd : i + d = s.length) : Runs (fun k => D.metrolabref26_Scale.l0 k s i) (if allW (s.drop i) = true then (s, 0) else ([], 2)) := by
 induction d generalizing i with
 | zero =>
  rw [List.drop_of_length_le (by omega), if_pos (by rfl)]
  refine Runs.succ (Runs.pure _) fun k => ?_
  rw [D.metrolabref26_Scale.l0, if_neg (by omega)]
 | succ d ih =>
  have hil : i < s.length := by omega
  have hg := prs_get s i hil
  have hn := ih (i + 1) (by omega)
  have w1 : wrap64 ((i : Int) + 1) = ((i + 1 : Nat) : Int) := by rw [IntWalk.wrap64_in _ (by omega)]; omega
  rw [List.drop_eq_getElem_cons hil]
  by_cases hin : -1048576 ≤ s[i].f0 ∧ s[i].f0 ≤ 1048576
  ·have e : allW (s[i] :: s.drop (i + 1)) = allW (s.drop (i + 1)) := by
    unfold allW
    rw [List.all_cons, decide_eq_true hin, Bool.true_and]
   rw [e]
   refine Runs.succ hn fun k => ?_
   rw [D.metrolabref26_Scale.l0, if_pos (by omega), if_pos (by omega), hg, value_f, Option.bind_some, decide_eq_true hin, if_pos rfl, w1]
  ·have e : allW (s[i] :: s.drop (i + 1)) = false := by
    unfold allW
    rw [List.all_cons, decide_eq_false hin, Bool.false_and]
   rw [e, if_neg (by decide)]
   refine Runs.succ (Runs.pure _) fun k => ?_
   rw [D.metrolabref26_Scale.l0, if_pos (by omega), if_pos (by omega), hg, value_f, Option.bind_some, decide_eq_false hin, if_neg (by decide)]
theorem gd_sorted {l : List S60} (h0 : dck (prs l) = 0) (i j : Nat) (hj : j < l.length) (hij : i < j) : (l[i]'(by omega)).f0 < l[j].f0 := by
 have h := List.pairwise_iff_getElem.1 (dck_sorted h0) i j (by rw [D.prs_len]; omega) (by rw [D.prs_len]; omega) hij
 rw [prs_at l i (by omega), prs_at l j hj] at h
 exact h
theorem scale_ok (l : List S60) (h0 : dck (prs l) = 0) (h : Gd (prs l)) (q b : Int) (hq : -1048576 ≤ q ∧ q ≤ 1048576) (hb : -1048576 ≤ b ∧ b ≤ 1048576) (hz : q ≠ 0) :
  ∃ r : List S60 × Int, r.1.length ≤ 4096 ∧ Runs (fun k => D.dist_Scale.l0 k q b [] l (l.length : Int) 0) r ∧ Runs (fun k => D.metrolabref26_Scale.j0 k l q b false) r := by
 have hpl := D.prs_len l
 have hll := h.len
 have hml : (l.map (mv q b)).length = l.length := List.length_map _
 have hw : ∀ x ∈ l.map (mv q b), ¬ x.f1.toList = ([48] : List UInt8) := by
  intro x hx
  obtain ⟨y, hy, rfl⟩ := List.mem_map.1 hx
  obtain ⟨i, hi, rfl⟩ := List.getElem_of_mem hy
  obtain ⟨w1, w2, w3⟩ := wtx h hi
  have hp := h.pos _ (List.getElem_mem (show i < (prs l).length by omega))
  rw [prs_at l i hi] at hp
  show ¬ (l[i].f1).toList = _
  rw [w1, itx_zero_list]
  exact fun h => by simp only at hp; omega
 have hd := dscale_l0 l h q b hq hb l.length 0 (by omega)
 rw [List.drop_zero] at hd
 have hse : ∀ i (hi : i < (l.map (mv q b)).length), (l.map (mv q b))[i].f0 = q * (l[i]'(by omega)).f0 + b := fun i hi => by rw [List.getElem_map]; rfl
 have hgath : ∃ s : List S60, s.length = l.length ∧ allW s = allW (l.map (mv q b)) ∧ s = (if q < 0 then (l.map (mv q b)).reverse else l.map (mv q b)) ∧ Runs (fun k => D.metrolabref26_Gathered.f k (l.map (mv q b))) s := by
  by_cases hn : q < 0
  ·refine ⟨(l.map (mv q b)).reverse, by rw [List.length_reverse, hml], by unfold allW; rw [List.all_reverse], by rw [if_pos hn], ?_⟩
   exact gath_desc (l.map (mv q b)) (by omega) (fun i j hj hij => by
    rw [hse j hj, hse i (by omega)]
    have := Int.mul_lt_mul_of_neg_left (gd_sorted h0 i j (by omega) hij) hn
    omega) hw _ 0 (by rw [Nat.zero_add])
  ·refine ⟨l.map (mv q b), hml, rfl, by rw [if_neg hn], ?_⟩
   exact gath_asc (l.map (mv q b)) (by omega) (fun i j hj hij => by
    rw [hse j hj, hse i (by omega)]
    have := Int.mul_lt_mul_of_pos_left (gd_sorted h0 i j (by omega) hij) (show 0 < q by omega)
    omega) hw _ 0 (by rw [Nat.zero_add])
 obtain ⟨s, s1, s2, s3, s4⟩ := hgath
 have hm := moved_l0 l h q b hq hb s s4 l.length 0 (by omega)
 have hr := rscale_l0 s (by omega) s.length 0 (by omega)
 rw [List.drop_zero, s2] at hr
 rw [← s3] at hd
 refine ⟨_, ?_, hd, ?_⟩
 ·split
  ·show s.length ≤ 4096
   omega
  ·exact Nat.zero_le _
 ·refine Runs.succ (Runs.bind (f := fun k t => D.metrolabref26_Scale.l0 k t 0) (g := fun k => D.metrolabref26_Moved.f k l q b) hm hr) fun k => ?_
  rw [D.metrolabref26_Scale.j0, if_neg (by decide)]
theorem scale_run (l : List S60) (h : Fine l) (q b : Int) : ∃ r : List S60 × Int, r.1.length ≤ 4096 ∧ Runs (fun k => D.dist_Scale.f k l q b) r ∧ Runs (fun k => D.metrolabref26_Scale.f k l q b) r := by
 have hj : Runs (fun k => D.metrolabref26_Scale.j0 k l q b true) ([], 2) := Runs.succ (Runs.pure _) fun k => by rw [D.metrolabref26_Scale.j0, if_pos rfl]
 unfold D.dist_Scale.f D.metrolabref26_Scale.f
 rw [dcheck_f l h, dwithin_f, dwithin_f, value_f, value_f]
 simp only [Option.bind_some]
 by_cases h0 : dck (prs l) = 0
 ·by_cases hz : q = 0
  ·exact ⟨([], 10), Nat.zero_le _, Runs.pos h0 (Runs.pos hz (Runs.pure _)), Runs.bind (rcheck26 l h.sz h.len) (Runs.pos h0 (Runs.pos hz (Runs.pure _)))⟩
  ·by_cases hq : -1048576 ≤ q ∧ q ≤ 1048576
   ·by_cases hb : -1048576 ≤ b ∧ b ≤ 1048576
    ·obtain ⟨r, r0, r1, r2⟩ := scale_ok l h0 (h.gd h0) q b hq hb hz
     refine ⟨r, r0, Runs.pos h0 (Runs.neg hz (Runs.pos (decide_eq_true hq) (Runs.pos (decide_eq_true hb) r1))), Runs.bind (rcheck26 l h.sz h.len) (Runs.pos h0 (Runs.neg hz (Runs.pos (decide_eq_true hq) ?_)))⟩
     rw [decide_eq_true hb]; exact r2
    ·refine ⟨([], 2), Nat.zero_le _, Runs.pos h0 (Runs.neg hz (Runs.pos (decide_eq_true hq) (Runs.neg (by rw [decide_eq_false hb]; decide) (Runs.pure _)))), Runs.bind (rcheck26 l h.sz h.len) (Runs.pos h0 (Runs.neg hz (Runs.pos (decide_eq_true hq) ?_)))⟩
     rw [decide_eq_false hb]; exact hj
   ·exact ⟨([], 2), Nat.zero_le _, Runs.pos h0 (Runs.neg hz (Runs.neg (by rw [decide_eq_false hq]; decide) (Runs.pure _))), Runs.bind (rcheck26 l h.sz h.len) (Runs.pos h0 (Runs.neg hz (Runs.neg (by rw [decide_eq_false hq]; decide) hj)))⟩
 ·exact ⟨([], dck (prs l)), Nat.zero_le _, Runs.neg h0 (Runs.pure _), Runs.bind (rcheck26 l h.sz h.len) (Runs.neg h0 (Runs.pure _))⟩
def gI (l : List S60) : Int := l.foldl (fun g x => gcdv g (ival x.f1)) 0
theorem gI_snoc (l : List S60) (x : S60) : gI (l ++ [x]) = gcdv (gI l) (ival x.f1) := by simp [gI]
theorem gI_take (l : List S60) (i : Nat) (h : i < l.length) : gI (l.take (i + 1)) = gcdv (gI (l.take i)) (ival l[i].f1) := by rw [← List.take_append_getElem h, gI_snoc]
theorem gcdv_le (u : Int) {v : Int} (hv : 0 < v) : 0 < gcdv u v ∧ gcdv u v ≤ v := by
 unfold gcdv
 have h1 := Nat.gcd_le_right u.natAbs (show 0 < v.natAbs by omega)
 have h2 := Nat.gcd_pos_of_pos_right u.natAbs (show 0 < v.natAbs by omega)
 omega
theorem gpos {l : List S60} (h : Gd (prs l)) {i : Nat} (hi : i < l.length) : 0 < ival l[i].f1 := by
 have := h.pos _ (List.getElem_mem (show i < (prs l).length by rw [D.prs_len]; exact hi))
 rwa [prs_at l i hi] at this
theorem gI_bd {l : List S60} (h : Gd (prs l)) (i : Nat) (hi : i ≤ l.length) : (gI (l.take i)).natAbs < 10 ^ 60 ∧ (0 < i → 0 < gI (l.take i)) := by
 cases i with
 | zero => exact ⟨by rw [List.take_zero]; exact Nat.pow_pos (by decide), fun h => absurd h (by decide)⟩
 | succ i =>
  rw [gI_take l i hi]
  have h1 := gcdv_le (gI (l.take i)) (gpos h hi)
  have h2 := (wtx h hi).2.1
  exact ⟨Nat.lt_of_le_of_lt (by omega) h2, fun _ => h1.1⟩
theorem chk_bd {v : Int} (h : v.natAbs < 10 ^ 60) : chk (itx v) = 0 := by rw [chk_itx, if_pos (fits_exp h (by decide))]
theorem sz_bd {v : Int} (h : v.natAbs < 10 ^ 60) : (itx v).size ≤ 4611686018427387904 := by
 have h1 := itx_size_dtx v
 have h2 := size_of_lt h (by decide)
 omega
theorem dgcd_f {u v : Int} (hu : u.natAbs < 10 ^ 60) (hv : v.natAbs < 10 ^ 60) : D.whole_Gcd.f (itx u) (itx v) = some (itx (gcdv u v), 0) := by
 unfold D.whole_Gcd.f two
 rw [if_pos ⟨sz_bd hu, sz_bd hv⟩, if_neg (by rw [chk_bd hu]; decide), if_neg (by rw [chk_bd hv]; decide), ival_itx, ival_itx]
theorem fdiv_le {u v : Int} (hu : 0 < u) (hv : 0 < v) (h : u.natAbs < 10 ^ 60) : (u.fdiv v).natAbs < 10 ^ 60 := by
 have e : u.fdiv v = u / v := Int.fdiv_eq_ediv_of_nonneg u (by omega)
 have h1 := Int.ediv_le_self v (show 0 ≤ u by omega)
 have h2 := Int.ediv_nonneg (show 0 ≤ u by omega) (show 0 ≤ v by omega)
 rw [e]
 exact Nat.lt_of_le_of_lt (by omega) h
theorem dquo_f {u v : Int} (hu0 : 0 < u) (hv0 : 0 < v) (hu : u.natAbs < 10 ^ 60) (hv : v.natAbs < 10 ^ 60) : D.whole_Quo.f (itx u) (itx v) = some (itx (u.fdiv v), 0) := by
 have hf : fits (u.fdiv v) := fits_exp (fdiv_le hu0 hv0 hu) (by decide)
 show L.whole_Quo.f _ _ = _
 rw [quo_f (itx u) (itx v) (Nat.le_trans (sz_bd hu) (by decide)) (Nat.le_trans (sz_bd hv) (by decide))]
 unfold quoF two
 rw [if_neg (by rw [chk_bd hu]; decide), if_neg (by rw [chk_bd hv]; decide), ival_itx, ival_itx, if_neg (by omega), kept_fits hf]
theorem rshared_f {u v : Int} (hu : u.natAbs < 10 ^ 60) (hv : v.natAbs < 10 ^ 60) : D.metrolabref01_Shared.f (itx u) (itx v) = some (itx (gcdv u v)) := by
 unfold D.metrolabref01_Shared.f
 rw [if_pos ⟨okI_bd hu (by decide) (by decide), okI_bd hv (by decide) (by decide)⟩, ival_itx, ival_itx]
theorem rparted_f {u v : Int} (hv0 : 0 < v) (hu : u.natAbs < 10 ^ 60) (hv : v.natAbs < 10 ^ 60) : D.metrolabref01_Parted.f (itx u) (itx v) = some (itx (u.fdiv v), itx (u.fmod v)) := by
 unfold D.metrolabref01_Parted.f
 rw [if_pos ⟨⟨okI_bd hu (by decide) (by decide), okI_bd hv (by decide) (by decide)⟩, by rw [ival_itx]; omega⟩, ival_itx, ival_itx]
def rdc (g : Int) (x : S60) : S60 := ⟨x.f0, itx ((ival x.f1).fdiv g)⟩
theorem red_l1 (l : List S60) (h : Gd (prs l)) (g : Int) (hg0 : 0 < g) (hg1 : g.natAbs < 10 ^ 60) (d i : Nat) (hd : i + d = l.length) :
  Runs (fun k => D.dist_Reduce.l1 k (itx g) ((l.map (rdc g)).take i) l (l.length : Int) i) (l.map (rdc g), 0) ∧ Runs (fun k => D.metrolabref26_Reduce.l1 k l (itx g) ((l.map (rdc g)).take i) i) (l.map (rdc g), 0) := by
 have hpl := D.prs_len l
 have hll := h.len
 have hml : (l.map (rdc g)).length = l.length := List.length_map _
 induction d generalizing i with
 | zero =>
  rw [List.take_of_length_le (by omega)]
  refine ⟨Runs.succ (Runs.pure _) fun k => ?_, Runs.succ (Runs.pure _) fun k => ?_⟩
  ·rw [D.dist_Reduce.l1, if_neg (by omega)]
  ·rw [D.metrolabref26_Reduce.l1, if_neg (by omega)]
 | succ d ih =>
  have hil : i < l.length := by omega
  have hg := prs_get l i hil
  obtain ⟨n1, n2⟩ := ih (i + 1) (by omega)
  have hme : (l.map (rdc g))[i]'(by omega) = rdc g l[i] := List.getElem_map _
  have t1 : ((l.map (rdc g)).take i).length ≤ 4096 := by rw [List.length_take]; omega
  have w1 : wrap64 ((i : Int) + 1) = ((i + 1 : Nat) : Int) := by rw [IntWalk.wrap64_in _ (by omega)]; omega
  rw [← List.take_append_getElem (by omega : i < (l.map (rdc g)).length), hme] at n1 n2
  obtain ⟨x1, x2, _⟩ := wtx h hil
  have q1 := dquo_f (gpos h hil) hg0 x2 hg1
  have q2 := rparted_f (u := ival l[i].f1) hg0 x2 hg1
  rw [← x1] at q1 q2
  clear hg1 x2
  refine ⟨Runs.succ n1 fun k => ?_, Runs.succ n2 fun k => ?_⟩
  ·rw [D.dist_Reduce.l1, if_pos (by omega), if_pos (by omega), if_pos (by omega), hg, q1, Option.bind_some, if_pos rfl, if_pos (by omega), w1]; rfl
  ·rw [D.metrolabref26_Reduce.l1, if_pos (by omega), if_pos (by omega), hg, q2, Option.bind_some, if_pos (by omega), w1]; rfl
theorem red_l0 (l : List S60) (h : Gd (prs l)) (d i : Nat) (hd : i + d = l.length) :
  Runs (fun k => D.dist_Reduce.l0 k l (itx (gI (l.take i))) l (l.length : Int) i) (l.map (rdc (gI l)), 0) ∧ Runs (fun k => D.metrolabref26_Reduce.l0 k l (itx (gI (l.take i))) i) (l.map (rdc (gI l)), 0) := by
 have hpl := D.prs_len l
 have hll := h.len
 induction d generalizing i with
 | zero =>
  have hb := gI_bd h l.length (Nat.le_refl _)
  have hne : 0 < l.length := by have := List.length_pos_iff.2 h.ne; omega
  rw [List.take_of_length_le (Nat.le_refl _)] at hb
  rw [List.take_of_length_le (by omega)]
  obtain ⟨n1, n2⟩ := red_l1 l h (gI l) (hb.2 hne) hb.1 l.length 0 (by omega)
  refine ⟨Runs.succ n1 fun k => ?_, Runs.succ n2 fun k => ?_⟩
  ·rw [D.dist_Reduce.l0, if_neg (by omega)]; rfl
  ·rw [D.metrolabref26_Reduce.l0, if_neg (by omega)]; rfl
 | succ d ih =>
  have hil : i < l.length := by omega
  have hg := prs_get l i hil
  obtain ⟨n1, n2⟩ := ih (i + 1) (by omega)
  have w1 : wrap64 ((i : Int) + 1) = ((i + 1 : Nat) : Int) := by rw [IntWalk.wrap64_in _ (by omega)]; omega
  rw [gI_take l i hil] at n1 n2
  obtain ⟨x1, x2, _⟩ := wtx h hil
  have hb := (gI_bd h i (by omega)).1
  have q1 := dgcd_f hb x2
  have q2 := rshared_f hb x2
  rw [← x1] at q1 q2
  clear hb x2
  refine ⟨Runs.succ n1 fun k => ?_, Runs.succ n2 fun k => ?_⟩
  ·rw [D.dist_Reduce.l0, if_pos (by omega), if_pos (by omega), if_pos (by omega), hg, q1, Option.bind_some, if_pos rfl, w1]
  ·rw [D.metrolabref26_Reduce.l0, if_pos (by omega), if_pos (by omega), hg, q2, Option.bind_some, w1]
theorem reduce_run (l : List S60) (h : Fine l) : ∃ r : List S60 × Int, r.1.length ≤ 4096 ∧ Runs (fun k => D.dist_Reduce.f k l) r ∧ Runs (fun k => D.metrolabref26_Reduce.f k l) r := by
 unfold D.dist_Reduce.f D.metrolabref26_Reduce.f
 rw [dcheck_f l h]
 simp only [Option.bind_some]
 by_cases h0 : dck (prs l) = 0
 ·have hgd := h.gd h0
  have hll := hgd.len
  rw [D.prs_len] at hll
  obtain ⟨n1, n2⟩ := red_l0 l hgd l.length 0 (by omega)
  rw [List.take_zero, show itx (gI []) = (⟨#[48]⟩ : ByteArray) from itx_zero] at n1 n2
  exact ⟨_, by rw [List.length_map]; exact hll, Runs.pos h0 n1, Runs.bind (rcheck26 l h.sz h.len) (Runs.pos h0 n2)⟩
 ·exact ⟨([], dck (prs l)), Nat.zero_le _, Runs.neg h0 (Runs.pure _), Runs.bind (rcheck26 l h.sz h.len) (Runs.neg h0 (Runs.pure _))⟩
theorem changes_run (l : List S60) (q b : Int) (hsz : szs l) (hl : l.length ≤ 4611686018427387904) (_hq : -9223372036854775808 ≤ q ∧ q < 9223372036854775808) (_hb : -9223372036854775808 ≤ b ∧ b < 9223372036854775808) : Runs (fun k => D.metrolablaw26_DistChanges.f k l q b) true := by
 unfold D.metrolablaw26_DistChanges.f
 obtain ⟨t, ht, htt⟩ := few_f l hl
 refine Runs.bind ht ?_
 cases t
 ·exact Runs.neg (by decide) (Runs.bind awake_run (Runs.pure _))
 ·refine Runs.pos rfl ?_
  have hf := fine_few hsz hl (htt rfl)
  obtain ⟨u, u0, u1, u2⟩ := scale_run l hf q b
  obtain ⟨v, v0, v1, v2⟩ := reduce_run l hf
  refine Runs.bind u1 (Runs.bind u2 (Runs.bind v1 (Runs.bind v2 (Runs.bind awake_run (Runs.pos rfl (Runs.bind (same_run _ (by omega)) (Runs.pos rfl (Runs.pos rfl (Runs.bind (same_run _ (by omega)) (Runs.pos rfl ?_))))))))))
  rw [show (v.2 == v.2) = true from beq_self_eq_true _]
  exact Runs.pure _
end Go.Proofs.YtkdpcgmnkifbbaaGreatDoor
