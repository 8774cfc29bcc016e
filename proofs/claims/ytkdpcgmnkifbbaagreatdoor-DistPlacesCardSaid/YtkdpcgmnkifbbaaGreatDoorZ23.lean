/- Joined by a program of this session out of its texts, with only what the last theorem needs: Pn Po Pp Pq. No conditions but those stated. -/
import Derived.Test.YtkdpcgmnkifbbaaGreatDoorZ22
set_option linter.unusedVariables false
set_option linter.unusedSimpArgs false
namespace Go.Proofs.YtkdpcgmnkifbbaaGreatDoorW.PrintMore
end Go.Proofs.YtkdpcgmnkifbbaaGreatDoorW.PrintMore
namespace Go.Proofs.YtkdpcgmnkifbbaaGreatDoorW.PrintWords
end Go.Proofs.YtkdpcgmnkifbbaaGreatDoorW.PrintWords
section
namespace Go.Proofs.YtkdpcgmnkifbbaaGreatDoor
open Go.RowKit Go.Proofs.YtkdpcgmnkifbbaaGreatDoorW.PrintWords Go.Proofs.YtkdpcgmnkifbbaaGreatDoorW.PrintMore
open D (S60 prs)
theorem dckl_sorted : ∀ {l : List (Int × ByteArray)} {p : Option Int}, dckl p l = 0 → (∀ q, p = some q → ∀ x ∈ l, q < x.1) ∧ l.Pairwise (fun x y => x.1 < y.1)
 | [], _, _ => ⟨fun _ _ x hx => by simp at hx, List.Pairwise.nil⟩
 | y :: t, p, h => by
  unfold dckl at h
  by_cases h1 : dck1 p y = 0
  ·rw [if_neg (fun h2 => h2 h1)] at h
   have ih := dckl_sorted h
   have hy : ∀ q, p = some q → q < y.1 := by
    intro q hq
    subst hq
    unfold dck1 at h1
    split at h1
    ·rename_i h2; exact absurd h1 h2
    ·split at h1
     ·cases h1
     ·simp only at h1
      split at h1
      ·cases h1
      ·omega
   refine ⟨fun q hq x hx => ?_, List.Pairwise.cons (fun x hx => ih.1 _ rfl x hx) ih.2⟩
   rcases List.mem_cons.1 hx with rfl | hx
   ·exact hy q hq
   ·exact Int.lt_trans (hy q hq) (ih.1 _ rfl x hx)
  ·rw [if_pos h1] at h; exact absurd h h1
theorem dck_sorted {l : List (Int × ByteArray)} (h : dck l = 0) : l.Pairwise (fun x y => x.1 < y.1) := by
 unfold dck at h
 split at h
 ·cases h
 ·split at h
  ·cases h
  ·exact (dckl_sorted h).2
theorem sorted_le {l : List (Int × ByteArray)} (h : l.Pairwise (fun x y => x.1 < y.1)) {i j : Nat} (hj : j < l.length) (hij : i ≤ j) : (l[i]'(by omega)).1 ≤ l[j].1 := by
 rcases Nat.lt_or_ge i j with h1 | h1
 ·exact Int.le_of_lt (List.pairwise_iff_getElem.1 h i j (by omega) hj h1)
 ·have : i = j := by omega
  subst this; exact Int.le_refl _
theorem sumf_congr {f g : Int × ByteArray → Int} {l : List (Int × ByteArray)} (h : ∀ x ∈ l, f x = g x) : sumf f l = sumf g l := by
 have key : ∀ (l : List (Int × ByteArray)) (s : Int), (∀ x ∈ l, f x = g x) → l.foldl (fun s x => s + f x) s = l.foldl (fun s x => s + g x) s := by
  intro l
  induction l with
  | nil => intro s _; rfl
  | cons x t ih =>
   intro s h
   rw [List.foldl_cons, List.foldl_cons, h x List.mem_cons_self]
   exact ih _ (fun y hy => h y (List.mem_cons_of_mem _ hy))
 exact key l 0 h
theorem probq_low {l : List (Int × ByteArray)} {lo lo' hi : Int} (h : ∀ x ∈ l, lo ≤ x.1 ∧ lo' ≤ x.1) : probq l lo hi = probq l lo' hi := by
 unfold probq
 congr 1
 refine sumf_congr fun x hx => ?_
 have := h x hx
 unfold fP pick
 by_cases h2 : hi < x.1
 ·rw [if_pos (.inr h2), if_pos (.inr h2)]
 ·rw [if_neg (by omega), if_neg (by omega)]
theorem probq_all {l : List (Int × ByteArray)} (hg : Gd l) {lo hi : Int} (h : ∀ x ∈ l, lo ≤ x.1 ∧ x.1 ≤ hi) : probq l lo hi = 1 := by
 have e : sumf (fP lo hi) l = totw l := by
  unfold totw
  refine sumf_congr fun x hx => ?_
  have := h x hx
  unfold fP pick fW
  rw [if_neg (by omega)]
 unfold probq
 rw [e]
 have h1 : (1 : Rat) = Rat.divInt 1 1 := rfl
 rw [h1]
 exact (Rat.divInt_eq_divInt_iff hg.tot0 (by decide)).2 (by omega)
theorem cmpq_swap {p q : Rat} (h : ¬ cmpq q p > 0) : cmpq p q ≥ 0 := by
 unfold cmpq cmpv at *
 split at h
 ·split
  ·omega
  ·split <;> omega
 ·split at h
  ·split
   ·omega
   ·split <;> omega
  ·omega
theorem probR_ok {l : List (Int × ByteArray)} (h0 : dck l = 0) {lo hi : Int} (h : lo ≤ hi) : probR l lo hi = (rtx (probq l lo hi), 0) := by
 unfold probR distR
 rw [if_pos h0, if_neg (by omega)]
theorem compare_rtx {p q : Rat} {a b : Nat} (hp : Bd a p) (hq : Bd b q) (ha : 0 < a) (hb : 0 < b) (hab : a + b ≤ 1024) : D.ratio_Compare.f (rtx p) (rtx q) = some (cmpq p q, 0) := by
 unfold D.ratio_Compare.f
 have h1 := rtx_size2 hp ha
 have h2 := rtx_size2 hq hb
 rw [if_pos ⟨by omega, by omega⟩, cmpR_rtx hp hq hab]
theorem quant_loops (l : List S60) (h : Fine l) (h0 : dck (prs l) = 0) (q : Rat) (hq : Bd 31 q) (hq1 : ¬ cmpq q 1 > 0) (d i : Nat) (hd : i + (d + 1) = l.length) :
  ∃ v, Runs (fun k => D.dist_Quantile.l0 k l (rtx q) l (l.length : Int) i) (v, 0) ∧ Runs (fun k => D.metrolabref26_Quantile.l0 k l (rtx q) i) (v, 0) := by
 have hgd := h.gd h0
 have hpl := D.prs_len l
 have hll := hgd.len
 have hso := dck_sorted h0
 have h0l : 0 < l.length := by omega
 induction d generalizing i with
 | zero =>
  have hi : i < l.length := by omega
  have hg := prs_get l i hi
  have hv := hgd.val _ (List.getElem_mem (show i < (prs l).length by omega))
  rw [prs_at l i hi] at hv
  have hpr : probq (prs l) (-1048576) l[i].f0 = 1 := probq_all hgd fun x hx => by
   obtain ⟨j, hj, rfl⟩ := List.getElem_of_mem hx
   have h3 := hgd.val _ (List.getElem_mem hj)
   have h4 := sorted_le hso (i := j) (j := i) (by omega) (by omega)
   rw [prs_at l i hi] at h4
   exact ⟨h3.1, h4⟩
  have hpr2 : probq (prs l) l[0].f0 l[i].f0 = 1 := by
   rw [← hpr]
   refine probq_low fun x hx => ?_
   obtain ⟨j, hj, rfl⟩ := List.getElem_of_mem hx
   have h3 := hgd.val _ (List.getElem_mem hj)
   have h4 := sorted_le hso (i := 0) (j := j) hj (Nat.zero_le _)
   rw [prs_at l 0 h0l] at h4
   exact ⟨h4, h3.1⟩
  have hc : cmpq 1 q ≥ 0 := cmpq_swap hq1
  have b1 : Bd 77 (1 : Rat) := by rw [← hpr]; exact hgd.prob _ _
  have e1 : D.dist_Probability.f l (-1048576) l[i].f0 = some (rtx 1, 0) := by rw [dprob_f l h, probR_ok h0 hv.1, hpr]
  have e2 := compare_rtx b1 hq (by decide) (by decide) (by decide)
  have e3 := order_rtx b1 hq (by decide) (by decide) (by decide) (by decide)
  have w := within_run l hgd l[0].f0 l[i].f0
  rw [hpr2] at w
  refine ⟨l[i].f0, Runs.succ (Runs.pure _) fun k => ?_, Runs.succ (Runs.bind (f := fun k t224 => ((D.metrolabref02_Order.f t224 (rtx q)).bind fun t225 => (if t225 ≥ 0 then (some (l[i].f0, (0 : Int))) else (D.metrolabref26_Quantile.l0 k l (rtx q) (wrap64 ((i : Int) + 1)))))) w ?_) fun k => ?_⟩
  ·rw [D.dist_Quantile.l0, if_pos (by omega), if_pos (by omega), if_pos (by omega), hg, e1, Option.bind_some, if_pos rfl, e2, Option.bind_some, if_pos rfl, if_pos hc]
  ·rw [e3]; simp only [Option.bind_some]; exact Runs.pos hc (Runs.pure _)
  ·rw [D.metrolabref26_Quantile.l0, if_pos (by omega), if_pos (by omega), if_pos (by omega), hg, show D.rd_T60 l 0 = l[0] from prs_get l 0 h0l]
 | succ d ih =>
  have hi : i < l.length := by omega
  have hg := prs_get l i hi
  have hv := hgd.val _ (List.getElem_mem (show i < (prs l).length by omega))
  rw [prs_at l i hi] at hv
  have hpr2 : probq (prs l) l[0].f0 l[i].f0 = probq (prs l) (-1048576) l[i].f0 := by
   refine probq_low fun x hx => ?_
   obtain ⟨j, hj, rfl⟩ := List.getElem_of_mem hx
   have h3 := hgd.val _ (List.getElem_mem hj)
   have h4 := sorted_le hso (i := 0) (j := j) hj (Nat.zero_le _)
   rw [prs_at l 0 h0l] at h4
   exact ⟨h4, h3.1⟩
  have b1 : Bd 77 (probq (prs l) (-1048576) l[i].f0) := hgd.prob _ _
  have e1 : D.dist_Probability.f l (-1048576) l[i].f0 = some (rtx (probq (prs l) (-1048576) l[i].f0), 0) := by rw [dprob_f l h, probR_ok h0 hv.1]
  have e2 := compare_rtx b1 hq (by decide) (by decide) (by decide)
  have e3 := order_rtx b1 hq (by decide) (by decide) (by decide) (by decide)
  have w := within_run l hgd l[0].f0 l[i].f0
  rw [hpr2] at w
  have w6 : wrap64 ((i : Int) + 1) = ((i + 1 : Nat) : Int) := by rw [IntWalk.wrap64_in _ (by omega)]; omega
  by_cases hc : cmpq (probq (prs l) (-1048576) l[i].f0) q ≥ 0
  ·refine ⟨l[i].f0, Runs.succ (Runs.pure _) fun k => ?_, Runs.succ (Runs.bind (f := fun k t224 => ((D.metrolabref02_Order.f t224 (rtx q)).bind fun t225 => (if t225 ≥ 0 then (some (l[i].f0, (0 : Int))) else (D.metrolabref26_Quantile.l0 k l (rtx q) (wrap64 ((i : Int) + 1)))))) w ?_) fun k => ?_⟩
   ·rw [D.dist_Quantile.l0, if_pos (by omega), if_pos (by omega), if_pos (by omega), hg, e1, Option.bind_some, if_pos rfl, e2, Option.bind_some, if_pos rfl, if_pos hc]
   ·rw [e3]; simp only [Option.bind_some]; exact Runs.pos hc (Runs.pure _)
   ·rw [D.metrolabref26_Quantile.l0, if_pos (by omega), if_pos (by omega), if_pos (by omega), hg, show D.rd_T60 l 0 = l[0] from prs_get l 0 h0l]
  ·obtain ⟨v, r1, r2⟩ := ih (i + 1) (by omega)
   refine ⟨v, Runs.succ r1 fun k => ?_, Runs.succ (Runs.bind (f := fun k t224 => ((D.metrolabref02_Order.f t224 (rtx q)).bind fun t225 => (if t225 ≥ 0 then (some (l[i].f0, (0 : Int))) else (D.metrolabref26_Quantile.l0 k l (rtx q) (wrap64 ((i : Int) + 1)))))) w ?_) fun k => ?_⟩
   ·rw [D.dist_Quantile.l0, if_pos (by omega), if_pos (by omega), if_pos (by omega), hg, e1, Option.bind_some, if_pos rfl, e2, Option.bind_some, if_pos rfl, if_neg hc, w6]
   ·rw [e3, w6]; simp only [Option.bind_some]; exact Runs.neg hc r2
   ·rw [D.metrolabref26_Quantile.l0, if_pos (by omega), if_pos (by omega), if_pos (by omega), hg, show D.rd_T60 l 0 = l[0] from prs_get l 0 h0l]
theorem short_bd {p : ByteArray} (hr : rchk p = 0) (h1 : (cutF p).1.size ≤ 30) (h2 : (cutF p).2.1.size ≤ 30) : Bd 31 (rval p) := by
 obtain ⟨c1, c2, _⟩ := rchk_parts hr
 obtain ⟨_, e1, e2, _⟩ := rchk_zero hr
 have a1 := (chk_zero c1).1
 have a2 := (chk_zero c2).1
 have d1 := dtx_le_itx (ival (cutF p).1)
 have d2 := dtx_le_itx (ival (cutF p).2.1)
 rw [← a1] at d1
 rw [← a2] at d2
 refine ⟨?_, ?_⟩
 ·rw [e1]; exact lt_of_size (Nat.le_trans d1 (by omega))
 ·have e3 : (rval p).den = (rden p).natAbs := by omega
  rw [e3]; exact lt_of_size (Nat.le_trans d2 (by omega))
theorem zero_bd : Bd 1 (0 : Rat) := ⟨by decide, by decide⟩
theorem one_bd : Bd 1 (1 : Rat) := ⟨by decide, by decide⟩
theorem cmpq_zero (q : Rat) : cmpq q 0 = cmpv q.num 0 := by
 unfold cmpq
 have h1 : (0 : Rat).num = 0 := rfl
 have h2 : (0 : Rat).den = 1 := rfl
 rw [h1, h2, Int.zero_mul]
 congr 1
 omega
theorem quant_run (l : List S60) (h : Fine l) (p : ByteArray) (hp : p.size ≤ 140737488351232) (h1 : (cutF p).1.size ≤ 30) (h2 : (cutF p).2.1.size ≤ 30) :
  ∃ r, Runs (fun k => D.dist_Quantile.f k l p) r ∧ Runs (fun k => D.metrolabref26_Quantile.f k l p) r := by
 unfold D.dist_Quantile.f D.metrolabref26_Quantile.f
 rw [dcheck_f l h]
 simp only [Option.bind_some]
 by_cases h0 : dck (prs l) = 0
 ·have c1 : D.ratio_Check.f p = some (rchk p) := by unfold D.ratio_Check.f; rw [if_pos (by omega)]
  have c2 : D.metrolabref02_Check.f p = some (rchk p) := by unfold D.metrolabref02_Check.f; rw [if_pos (by omega)]
  by_cases hr : rchk p = 0
  ·have hbd := short_bd hr h1 h2
   have ep := (rchk_zero hr).1
   have k1 := compare_rtx hbd zero_bd (by decide) (by decide) (by decide)
   have k2 := compare_rtx hbd one_bd (by decide) (by decide) (by decide)
   have k3 : D.metrolabref02_Signum.f (rtx (rval p)) = some (cmpv (rval p).num 0) := by
    unfold D.metrolabref02_Signum.f
    rw [if_pos (okR_bd hbd (by decide) (by decide)), rval_rtx]
   have k4 := order_rtx hbd one_bd (by decide) (by decide) (by decide) (by decide)
   rw [rtx_zero, ← ep] at k1
   rw [rtx_one, ← ep] at k2
   rw [← ep] at k3
   rw [rtx_one, ← ep] at k4
   rw [cmpq_zero] at k1
   have hbad : Runs (fun k => D.dist_Quantile.j0 k l p true) (0, 2) := by
    refine Runs.succ (Runs.pure _) fun k => ?_
    rw [D.dist_Quantile.j0, if_pos rfl]
   by_cases hn : cmpv (rval p).num 0 < 0
   ·refine ⟨(0, 2), Runs.pos h0 ?_, Runs.bind (rcheck26 l h.sz h.len) (Runs.pos h0 ?_)⟩
    ·rw [c1]; simp only [Option.bind_some]
     refine Runs.pos hr ?_
     rw [k1, k2]; simp only [Option.bind_some]
     exact Runs.pos hn hbad
    ·have hu : D.metrolabref26_Unit.f p = some 2 := by
      unfold D.metrolabref26_Unit.f
      rw [c2, Option.bind_some, if_pos hr, k3, Option.bind_some, if_pos hn]
     rw [hu]; simp only [Option.bind_some]
     exact Runs.neg (by decide) (Runs.pure _)
   ·by_cases hg : cmpq (rval p) 1 > 0
    ·refine ⟨(0, 2), Runs.pos h0 ?_, Runs.bind (rcheck26 l h.sz h.len) (Runs.pos h0 ?_)⟩
     ·rw [c1]; simp only [Option.bind_some]
      refine Runs.pos hr ?_
      rw [k1, k2]; simp only [Option.bind_some]
      refine Runs.neg hn ?_
      rw [decide_eq_true hg]; exact hbad
     ·have hu : D.metrolabref26_Unit.f p = some 2 := by
       unfold D.metrolabref26_Unit.f
       rw [c2, Option.bind_some, if_pos hr, k3, Option.bind_some, if_neg hn, k4, Option.bind_some, if_pos hg]
      rw [hu]; simp only [Option.bind_some]
      exact Runs.neg (by decide) (Runs.pure _)
    ·have hlen := List.length_pos_iff.2 (h.gd h0).ne
     rw [D.prs_len] at hlen
     obtain ⟨v, r1, r2⟩ := quant_loops l h h0 (rval p) hbd hg (l.length - 1) 0 (by omega)
     rw [← ep] at r1 r2
     refine ⟨(v, 0), Runs.pos h0 ?_, Runs.bind (rcheck26 l h.sz h.len) (Runs.pos h0 ?_)⟩
     ·rw [c1]; simp only [Option.bind_some]
      refine Runs.pos hr ?_
      rw [k1, k2]; simp only [Option.bind_some]
      refine Runs.neg hn ?_
      rw [decide_eq_false hg]
      refine Runs.succ r1 fun k => ?_
      rw [D.dist_Quantile.j0, if_neg (by decide)]; rfl
     ·have hu : D.metrolabref26_Unit.f p = some 0 := by
       unfold D.metrolabref26_Unit.f
       rw [c2, Option.bind_some, if_pos hr, k3, Option.bind_some, if_neg hn, k4, Option.bind_some, if_neg hg]
      rw [hu]; simp only [Option.bind_some]
      exact Runs.pos (by first | trivial | rfl) r2
  ·refine ⟨(0, rchk p), Runs.pos h0 ?_, Runs.bind (rcheck26 l h.sz h.len) (Runs.pos h0 ?_)⟩
   ·rw [c1]; simp only [Option.bind_some]
    exact Runs.neg hr (Runs.pure _)
   ·have hu : D.metrolabref26_Unit.f p = some (rchk p) := by
     unfold D.metrolabref26_Unit.f
     rw [c2, Option.bind_some, if_neg hr]
    rw [hu]; simp only [Option.bind_some]
    exact Runs.neg hr (Runs.pure _)
 ·exact ⟨(0, dck (prs l)), Runs.neg h0 (Runs.pure _), Runs.bind (rcheck26 l h.sz h.len) (Runs.neg h0 (Runs.pure _))⟩
end Go.Proofs.YtkdpcgmnkifbbaaGreatDoor
end
section
namespace Go.Proofs.YtkdpcgmnkifbbaaGreatDoor
open Go.RowKit Go.Proofs.YtkdpcgmnkifbbaaGreatDoorW.PrintWords Go.Proofs.YtkdpcgmnkifbbaaGreatDoorW.PrintMore
open D (S60 prs)
theorem two_text : (⟨#[50]⟩ : ByteArray) = itx 2 := by unfold itx Lib.itoa; rw [if_neg (by decide)]; show _ = (⟨(Lib.decDigits 2).toArray⟩ : ByteArray); rw [dd_small (by decide)]; rfl
def samp : List S60 := [⟨1, itx 1⟩, ⟨2, itx 2⟩, ⟨4, itx 1⟩]
theorem sample_f : D.metrolablaw26_Sample.f = some samp := by
 unfold D.metrolablaw26_Sample.f samp
 rw [one_text, two_text]
theorem chk1 : chk (itx 1) = 0 := chk_small (by decide)
theorem chk2 : chk (itx 2) = 0 := chk_small (by decide)
theorem samp_prs : prs samp = [(1, itx 1), (2, itx 2), (4, itx 1)] := rfl
theorem samp_dck : dck (prs samp) = 0 := by
 rw [samp_prs]
 simp [dck, dckl, dck1, chk1, chk2, ival_itx]
theorem samp_sz : szs samp := by
 intro x hx
 have h1 := itx_size_le 1 (by decide) (by decide)
 have h2 := itx_size_le 2 (by decide) (by decide)
 simp only [samp, List.mem_cons, List.not_mem_nil, or_false] at hx
 rcases hx with rfl | rfl | rfl <;> simp only <;> omega
theorem samp_fine : Fine samp := by
 refine ⟨samp_sz, fun _ x hx => ?_, by decide⟩
 rw [samp_prs] at hx
 simp only [List.mem_cons, List.not_mem_nil, or_false] at hx
 rcases hx with rfl | rfl | rfl <;> simp only [ival_itx] <;> decide
theorem samp_tot : totw (prs samp) = 4 := by rw [samp_prs]; simp [totw, sumf, fW, ival_itx]
theorem samp_m1 : sumf (fM 1) (prs samp) = 9 := by rw [samp_prs]; simp [sumf, fM, ival_itx]
theorem samp_m2 : sumf (fM 2) (prs samp) = 25 := by rw [samp_prs]; simp [sumf, fM, ival_itx]
theorem samp_mean : meanR (prs samp) = (rtx (Rat.divInt 9 4), 0) := by
 unfold meanR distR meanq
 rw [if_pos samp_dck, samp_m1, samp_tot]
theorem samp_var : varR (prs samp) = (rtx (Rat.divInt 19 16), 0) := by
 unfold varR distR varq momq
 rw [if_pos samp_dck, samp_m1, samp_m2, samp_tot, Rat.divInt_mul_divInt, Rat.divInt_sub_divInt _ _ (by decide) (by decide)]
 rw [(Rat.divInt_eq_divInt_iff (n₂ := 19) (d₂ := 16) (by decide) (by decide)).2 (by decide)]
theorem samp_prob (lo hi : Int) (h : lo ≤ hi) : probR (prs samp) lo hi = (rtx (Rat.divInt (sumf (fP lo hi) (prs samp)) 4), 0) := by
 rw [probR_ok samp_dck h]; unfold probq; rw [samp_tot]
theorem rtx_low {u v : Int} (hv : 1 < v) (h : gcdv u v = 1) : (rtx (Rat.divInt u v)).toList = (itx u).toList ++ 47 :: (itx v).toList := by
 obtain ⟨h1, h2⟩ := divInt_low (by omega) h
 rw [Lib.toList_data, rtx_list, h1, h2, if_neg (by omega), Lib.toList_data, Lib.toList_data]
theorem itx_one_digit (n : Nat) (h : n < 10) : (itx (n : Int)).toList = [UInt8.ofNat (48 + n)] := by rw [Lib.toList_data, itx_list, itoa_nat, dd_small h]
theorem itx_two_digits (n : Nat) (h : ¬ n < 10) (h2 : n / 10 < 10) : (itx (n : Int)).toList = [UInt8.ofNat (48 + n / 10), UInt8.ofNat (48 + n % 10)] := by rw [Lib.toList_data, itx_list, itoa_nat, dd_big h, dd_small h2]; rfl
theorem txt_mean : (rtx (Rat.divInt 9 4)).toList = ([57, 47, 52] : List UInt8) := by
 rw [rtx_low (by decide) (by decide), show (9 : Int) = ((9 : Nat) : Int) from rfl, show (4 : Int) = ((4 : Nat) : Int) from rfl, itx_one_digit 9 (by decide), itx_one_digit 4 (by decide)]; rfl
theorem txt_var : (rtx (Rat.divInt 19 16)).toList = ([49, 57, 47, 49, 54] : List UInt8) := by
 rw [rtx_low (by decide) (by decide), show (19 : Int) = ((19 : Nat) : Int) from rfl, show (16 : Int) = ((16 : Nat) : Int) from rfl, itx_two_digits 19 (by decide) (by decide), itx_two_digits 16 (by decide) (by decide)]; rfl
theorem txt_half : (rtx (Rat.divInt 1 2)).toList = ([49, 47, 50] : List UInt8) := by
 rw [rtx_low (by decide) (by decide), show (1 : Int) = ((1 : Nat) : Int) from rfl, show (2 : Int) = ((2 : Nat) : Int) from rfl, itx_one_digit 1 (by decide), itx_one_digit 2 (by decide)]; rfl
theorem txt_45 : (⟨#[52, 47, 53]⟩ : ByteArray) = rtx (Rat.divInt 4 5) := by
 have h : (rtx (Rat.divInt 4 5)).toList = ([52, 47, 53] : List UInt8) := by
  rw [rtx_low (by decide) (by decide), show (4 : Int) = ((4 : Nat) : Int) from rfl, show (5 : Int) = ((5 : Nat) : Int) from rfl, itx_one_digit 4 (by decide), itx_one_digit 5 (by decide)]; rfl
 rw [Lib.toList_data] at h
 rw [← Lib.mk_data (rtx (Rat.divInt 4 5)), h]
theorem bd45 : Bd 31 (Rat.divInt 4 5) := bd_divInt (by decide) (by decide) (by decide)
theorem cmp_divInt {u v x y : Int} (hv : 0 < v) (hy : 0 < y) (g1 : gcdv u v = 1) (g2 : gcdv x y = 1) : cmpq (Rat.divInt u v) (Rat.divInt x y) = cmpv (u * y) (x * v) := by
 unfold cmpq
 obtain ⟨a1, a2⟩ := divInt_low hv g1
 obtain ⟨b1, b2⟩ := divInt_low hy g2
 rw [a1, a2, b1, b2]
theorem sum_p1 : sumf (fP (-1048576) 1) (prs samp) = 1 := by rw [samp_prs]; simp [sumf, fP, pick, ival_itx]
theorem sum_p2 : sumf (fP (-1048576) 2) (prs samp) = 3 := by rw [samp_prs]; simp [sumf, fP, pick, ival_itx]
theorem sum_p4 : sumf (fP (-1048576) 4) (prs samp) = 4 := by rw [samp_prs]; simp [sumf, fP, pick, ival_itx]
theorem sum_p23 : sumf (fP 2 3) (prs samp) = 2 := by rw [samp_prs]; simp [sumf, fP, pick, ival_itx]
theorem dq_round (l : List S60) (h : Fine l) (h0 : dck (prs l) = 0) (q : Rat) (hq : Bd 31 q) (i : Nat) (hi : i < l.length) (hi2 : i ≤ 4096) (hv : -1048576 ≤ l[i].f0) (k : Nat) :
  D.dist_Quantile.l0 (k + 1) l (rtx q) l (l.length : Int) i = if cmpq (probq (prs l) (-1048576) l[i].f0) q ≥ 0 then some (l[i].f0, 0) else D.dist_Quantile.l0 k l (rtx q) l (l.length : Int) ((i + 1 : Nat) : Int) := by
 have hgd := h.gd h0
 have hg := prs_get l i hi
 have e1 : D.dist_Probability.f l (-1048576) l[i].f0 = some (rtx (probq (prs l) (-1048576) l[i].f0), 0) := by rw [dprob_f l h, probR_ok h0 hv]
 have e2 := compare_rtx (hgd.prob (-1048576) l[i].f0) hq (by decide) (by decide) (by decide)
 rw [D.dist_Quantile.l0, if_pos (by omega), if_pos (by omega), if_pos (by omega), hg, e1, Option.bind_some, if_pos rfl, e2, Option.bind_some, if_pos rfl, IntWalk.wrap64_in _ (by omega)]
 rfl
theorem samp_quant : Runs (fun k => D.dist_Quantile.f k samp (⟨#[52, 47, 53]⟩ : ByteArray)) (4, 0) := by
 rw [txt_45]
 have hb := bd45
 have hr := hb.rchk (by decide)
 have c1 : D.ratio_Check.f (rtx (Rat.divInt 4 5)) = some (rchk (rtx (Rat.divInt 4 5))) := by
  unfold D.ratio_Check.f; rw [if_pos (by have := rtx_size2 hb (by decide); omega)]
 have k1 := compare_rtx hb zero_bd (by decide) (by decide) (by decide)
 have k2 := compare_rtx hb one_bd (by decide) (by decide) (by decide)
 rw [rtx_zero] at k1
 rw [rtx_one] at k2
 have g45 : gcdv 4 5 = 1 := by decide
 have v1 : cmpq (Rat.divInt 4 5) 0 = 1 := by rw [show (0 : Rat) = Rat.divInt 0 1 from rfl, cmp_divInt (by decide) (by decide) g45 (by decide)]; decide
 have v2 : cmpq (Rat.divInt 4 5) 1 = -1 := by rw [show (1 : Rat) = Rat.divInt 1 1 from rfl, cmp_divInt (by decide) (by decide) g45 (by decide)]; decide
 have q1 : cmpq (probq (prs samp) (-1048576) 1) (Rat.divInt 4 5) = -1 := by unfold probq; rw [sum_p1, samp_tot, cmp_divInt (by decide) (by decide) (by decide) g45]; decide
 have q2 : cmpq (probq (prs samp) (-1048576) 2) (Rat.divInt 4 5) = -1 := by unfold probq; rw [sum_p2, samp_tot, cmp_divInt (by decide) (by decide) (by decide) g45]; decide
 have q3 : cmpq (probq (prs samp) (-1048576) 4) (Rat.divInt 4 5) = 1 := by
  unfold probq
  rw [sum_p4, samp_tot, (Rat.divInt_eq_divInt_iff (n₂ := 1) (d₂ := 1) (by decide) (by decide)).2 (by decide), cmp_divInt (by decide) (by decide) (by decide) g45]; decide
 unfold D.dist_Quantile.f
 rw [dcheck_f samp samp_fine]
 simp only [Option.bind_some]
 refine Runs.pos samp_dck ?_
 rw [c1]; simp only [Option.bind_some]
 refine Runs.pos hr ?_
 rw [k1, k2]; simp only [Option.bind_some, v1, v2]
 refine Runs.neg (by decide) ?_
 refine Runs.succ (Runs.succ (Runs.succ (Runs.succ (Runs.pure _) (g := fun k => D.dist_Quantile.l0 k samp (rtx (Rat.divInt 4 5)) samp (samp.length : Int) ((2 : Nat) : Int)) fun k => ?_) (g := fun k => D.dist_Quantile.l0 k samp (rtx (Rat.divInt 4 5)) samp (samp.length : Int) ((1 : Nat) : Int)) fun k => ?_) (g := fun k => D.dist_Quantile.l0 k samp (rtx (Rat.divInt 4 5)) samp (samp.length : Int) ((0 : Nat) : Int)) fun k => ?_) fun k => ?_
 ·rw [dq_round samp samp_fine samp_dck _ hb 2 (by decide) (by decide) (by decide)]
  rw [show (samp[2]'(by decide)).f0 = 4 from rfl, q3, if_pos (by decide)]
 ·rw [dq_round samp samp_fine samp_dck _ hb 1 (by decide) (by decide) (by decide)]
  rw [show (samp[1]'(by decide)).f0 = 2 from rfl, q2, if_neg (by decide)]
 ·rw [dq_round samp samp_fine samp_dck _ hb 0 (by decide) (by decide) (by decide)]
  rw [show (samp[0]'(by decide)).f0 = 1 from rfl, q1, if_neg (by decide)]
 ·rw [D.dist_Quantile.j0, if_neg (by decide)]; rfl
end Go.Proofs.YtkdpcgmnkifbbaaGreatDoor
end
section
namespace Go.Proofs.YtkdpcgmnkifbbaaGreatDoor
open Go.RowKit Go.Proofs.YtkdpcgmnkifbbaaGreatDoorW.PrintWords Go.Proofs.YtkdpcgmnkifbbaaGreatDoorW.PrintMore
open D (S60 prs)
theorem mul_ev {u v : Int} {e : Nat} (hu : u.natAbs < 10 ^ e) (hv : v.natAbs < 10 ^ e) (hw : (u * v).natAbs < 10 ^ e) (he : e ≤ 1024) : D.whole_Mul.f (itx u) (itx v) = some (itx (u * v), 0) := by
 have h1 := chk_fits (fits_exp2 hu he)
 have h2 := chk_fits (fits_exp2 hv he)
 have s1 := chk_size h1
 have s2 := chk_size h2
 unfold D.whole_Mul.f
 rw [if_pos ⟨by omega, by omega⟩, two_go h1 h2, ival_itx, ival_itx, kept_fits (fits_exp2 hw he)]
def ppow (a : Int) (n : Nat) : List ByteArray := (List.range n).map fun j => itx (a ^ j)
theorem ppow_len (a : Int) (n : Nat) : (ppow a n).length = n := by unfold ppow; simp
theorem ppow_succ (a : Int) (n : Nat) : ppow a (n + 1) = ppow a n ++ [itx (a ^ n)] := by unfold ppow; rw [List.range_succ, List.map_append]; rfl
theorem ppow_at (a : Int) (n j : Nat) (h : j < n) : rdOf ByteArray.empty (ppow a n) (j : Int) = itx (a ^ j) := by
 unfold rdOf ppow
 rw [Int.toNat_natCast]
 simp [List.getD, h]
theorem pow_bd {a : Int} (h0 : 0 ≤ a) (h1 : a ≤ 1048576) {j : Nat} (hj : j ≤ 30) : (a ^ j).natAbs < 10 ^ 200 := by
 rw [Int.natAbs_pow]
 have h2 : a.natAbs ^ j ≤ 1048576 ^ j := Nat.pow_le_pow_left (by omega) j
 have h3 : 1048576 ^ j ≤ 1048576 ^ 30 := Nat.pow_le_pow_right (by decide) hj
 exact Nat.lt_of_le_of_lt (Nat.le_trans h2 h3) (by decide)
theorem dof_f (n : Int) (h0 : -9223372036854775808 ≤ n) (h1 : n ≤ 9223372036854775807) : D.whole_Of.f n = some (itx n) := of_f n h0 h1
theorem powers_l0 (a : Int) (n : Nat) (h0 : 0 ≤ a) (h1 : a ≤ 1048576) (hn : n ≤ 30) (d i : Nat) (hd : i + d = n) : Runs (fun k => D.dist_powers.l0 k a (ppow a (i + 1)) n i) (ppow a (n + 1), 0) := by
 induction d generalizing i with
 | zero =>
  have hi : i = n := by omega
  subst hi
  refine Runs.succ (Runs.pure _) fun k => ?_
  rw [D.dist_powers.l0, if_neg (by omega)]
 | succ d ih =>
  have hn2 := ih (i + 1) (by omega)
  rw [ppow_succ a (i + 1)] at hn2
  have hm := mul_ev (u := a ^ i) (v := a) (e := 200) (pow_bd h0 h1 (by omega)) (Nat.lt_of_le_of_lt (show a.natAbs ≤ 1048576 by omega) (by decide)) (by rw [← Int.pow_succ]; exact pow_bd h0 h1 (by omega)) (by decide)
  rw [← Int.pow_succ] at hm
  refine Runs.succ hn2 fun k => ?_
  rw [D.dist_powers.l0, if_pos (by omega), if_pos (by omega), ppow_len, if_pos (by omega), dof_f a (by omega) (by omega), Option.bind_some, ppow_at _ _ _ (by omega), hm, Option.bind_some, if_pos rfl, if_pos (by omega), IntWalk.wrap64_in _ (by omega)]
  rfl
theorem powers_run (a : Int) (n : Nat) (h0 : 0 ≤ a) (h1 : a ≤ 1048576) (hn : n ≤ 30) : Runs (fun k => D.dist_powers.f k a n) (ppow a (n + 1), 0) := by
 have h := powers_l0 a n h0 h1 hn n 0 (by omega)
 have e : ppow a (0 + 1) = [(⟨#[49]⟩ : ByteArray)] := by rw [ppow_succ, Int.pow_zero, one_text]; rfl
 rw [e] at h
 exact h
theorem pw10 {x a b : Nat} (h : x < 10 ^ a) (hab : a ≤ b) : x < 10 ^ b := Nat.lt_of_lt_of_le h (Nat.pow_le_pow_right (by decide) hab)
theorem wrap01 : wrap64 ((0 : Int) + 1) = 1 := by rw [IntWalk.wrap64_in _ (by decide)]; rfl
theorem wrap12 : wrap64 ((1 : Int) + 1) = 2 := by rw [IntWalk.wrap64_in _ (by decide)]; rfl
theorem wrap23 : wrap64 ((2 : Int) + 1) = 3 := by rw [IntWalk.wrap64_in _ (by decide)]; rfl
theorem one_lt_pow10 {e : Nat} (h : 0 < e) : (1 : Int).natAbs < 10 ^ e := Nat.lt_of_lt_of_le (show (1 : Int).natAbs < 10 ^ 1 by decide) (Nat.pow_le_pow_right (by decide) h)
theorem mul_lt_pow2 {u v : Int} {a b c : Nat} (hc : a + b = c) (hu : u.natAbs < 10 ^ a) (hv : v.natAbs < 10 ^ b) : (u * v).natAbs < 10 ^ c := by
 subst hc; exact mul_lt_pow hu hv
theorem product3_run (b u v : Int) (hb : b.natAbs < 10 ^ 200) (hu : u.natAbs < 10 ^ 200) (hv : v.natAbs < 10 ^ 200) : Runs (fun k => D.dist_product.f k [itx b, itx u, itx v]) (itx (b * u * v), 0) := by
 have big : ∀ {x : Int}, x.natAbs < 10 ^ 200 → x.natAbs < 10 ^ 600 := fun h => pw10 (b := 600) h (by decide)
 have big6 : ∀ {x : Int}, x.natAbs < 10 ^ 400 → x.natAbs < 10 ^ 600 := fun h => pw10 (b := 600) h (by decide)
 have h2 : (b * u).natAbs < 10 ^ 400 := mul_lt_pow2 (c := 400) rfl hb hu
 have h3 : (b * u * v).natAbs < 10 ^ 600 := mul_lt_pow2 (c := 600) rfl h2 hv
 have one9 := one_lt_pow10 (e := 600) (by decide)
 have m1 := mul_ev (u := 1) (v := b) one9 (big hb) (by rw [Int.one_mul]; exact big hb) (by decide)
 have m2 := mul_ev (u := b) (v := u) (big hb) (big hu) (big6 h2) (by decide)
 have m3 := mul_ev (u := b * u) (v := v) (big6 h2) (big hv) h3 (by decide)
 rw [Int.one_mul, ← one_text] at m1
 refine Runs.congr (f := fun k => D.dist_product.l0 k (⟨#[49]⟩ : ByteArray) [itx b, itx u, itx v] 3 0) ?_ fun k => rfl
 refine Runs.succ (Runs.succ (Runs.succ (Runs.succ (Runs.pure _) (g := fun k => D.dist_product.l0 k (itx (b * u * v)) [itx b, itx u, itx v] 3 3) fun k => ?_) (g := fun k => D.dist_product.l0 k (itx (b * u)) [itx b, itx u, itx v] 3 2) fun k => ?_) (g := fun k => D.dist_product.l0 k (itx b) [itx b, itx u, itx v] 3 1) fun k => ?_) fun k => ?_
 ·rw [D.dist_product.l0, if_neg (by decide)]
 ·rw [D.dist_product.l0, if_pos (by decide), if_pos (by decide), if_pos (by simp), show rdOf ByteArray.empty [itx b, itx u, itx v] 2 = itx v from rfl, m3, Option.bind_some, if_pos rfl, wrap23]
 ·rw [D.dist_product.l0, if_pos (by decide), if_pos (by decide), if_pos (by simp), show rdOf ByteArray.empty [itx b, itx u, itx v] 1 = itx u from rfl, m2, Option.bind_some, if_pos rfl, wrap12]
 ·rw [D.dist_product.l0, if_pos (by decide), if_pos (by decide), if_pos (by simp), show rdOf ByteArray.empty [itx b, itx u, itx v] 0 = itx b from rfl, m1, Option.bind_some, if_pos rfl, wrap01]
def binw (n : Nat) (p r : Int) (k : Nat) : Int := (ch n k : Nat) * p ^ k * r ^ (n - k)
def binl (n : Nat) (p r : Int) : Nat → List S60
 | 0 => []
 | k + 1 => if binw n p r k = 0 then binl n p r k else binl n p r k ++ [⟨(k : Int), itx (binw n p r k)⟩]
theorem binl_len (n : Nat) (p r : Int) : ∀ k, (binl n p r k).length ≤ k
 | 0 => Nat.le_refl _
 | k + 1 => by
  unfold binl
  have := binl_len n p r k
  split
  ·omega
  ·rw [List.length_append, List.length_singleton]; omega
theorem dbin_f (n k : Nat) (hk : k ≤ n) (hn : n ≤ 30) : D.whole_Binomial.f n k = some (itx (ch n k : Nat), 0) := by
 unfold D.whole_Binomial.f
 rw [if_pos ⟨by omega, by omega, by omega⟩, Int.toNat_natCast, Int.toNat_natCast]
theorem dbin_l0 (n : Nat) (p r : Int) (hn : n ≤ 30) (hp0 : 0 ≤ p) (hp1 : p ≤ 1048576) (hr0 : 0 ≤ r) (hr1 : r ≤ 1048576) (d i : Nat) (hd : i + d = n + 1) :
  Runs (fun k => D.dist_Binomial.l0 k n (ppow p (n + 1)) (ppow r (n + 1)) (binl n p r i) ((n + 1 : Nat) : Int) i) (binl n p r (n + 1), 0) := by
 induction d generalizing i with
 | zero =>
  have hi : i = n + 1 := by omega
  subst hi
  refine Runs.succ (Runs.pure _) fun k => ?_
  rw [D.dist_Binomial.l0, if_neg (by omega)]
 | succ d ih =>
  have hin : i ≤ n := by omega
  have hnx := ih (i + 1) (by omega)
  have hch : (((ch n i : Nat) : Int)).natAbs < 10 ^ 200 := by
   rw [Int.natAbs_natCast]; exact Nat.lt_of_le_of_lt (ch_small hn) (by decide)
  have hpr := product3_run ((ch n i : Nat) : Int) (p ^ i) (r ^ (n - i)) hch (pow_bd hp0 hp1 (by omega)) (pow_bd hr0 hr1 (by omega))
  have w1 : wrap64 ((n : Int) - (i : Int)) = ((n - i : Nat) : Int) := by rw [IntWalk.wrap64_in _ (by omega)]; omega
  have w2 : wrap64 ((i : Int) + 1) = ((i + 1 : Nat) : Int) := by rw [IntWalk.wrap64_in _ (by omega)]; omega
  have hbl := binl_len n p r i
  refine Runs.succ (Runs.bind (f := fun k bt143 => (if bt143.2 = 0 then (if bt143.1.toList = ([48] : List UInt8) then (D.dist_Binomial.l0 k n (ppow p (n + 1)) (ppow r (n + 1)) (binl n p r i) ((n + 1 : Nat) : Int) ((i + 1 : Nat) : Int)) else (if (binl n p r i).length < 5864062014805 then (D.dist_Binomial.l0 k n (ppow p (n + 1)) (ppow r (n + 1)) (binl n p r i ++ [(⟨(i : Int), bt143.1⟩ : S60)]) ((n + 1 : Nat) : Int) ((i + 1 : Nat) : Int)) else (none))) else (some (([] : List (S60)), bt143.2)))) hpr ?_) fun k => ?_
  ·refine Runs.pos rfl ?_
   have e : ((ch n i : Nat) : Int) * p ^ i * r ^ (n - i) = binw n p r i := rfl
   rw [e]
   simp only [itx_zero_list]
   unfold binl at hnx
   by_cases h0 : binw n p r i = 0
   ·rw [if_pos h0] at hnx
    exact Runs.pos h0 hnx
   ·rw [if_neg h0] at hnx
    exact Runs.neg h0 (Runs.pos (by omega) hnx)
  ·rw [D.dist_Binomial.l0, if_pos (by omega), dbin_f n i hin hn, Option.bind_some, if_pos rfl, if_pos (by omega), ppow_len, if_pos (by omega), w1, if_pos (by omega), ppow_len, if_pos (by omega), ppow_at _ _ _ (by omega), ppow_at _ _ _ (by omega), w2]
theorem dbin_run (n : Nat) (p q : Int) (hn : n ≤ 30) (hq : 1 ≤ q) (hq1 : q ≤ 1048576) (hp : 0 ≤ p) (hpq : p ≤ q) : Runs (fun k => D.dist_Binomial.f k n p q) (binl n p (q - p) (n + 1), 0) := by
 have h1 := powers_run p n hp (by omega) hn
 have h2 := powers_run (q - p) n (by omega) (by omega) hn
 have h3 := dbin_l0 n p (q - p) hn hp (by omega) (by omega) (by omega) (n + 1) 0 (by omega)
 have w1 : wrap64 (q - p) = q - p := IntWalk.wrap64_in _ (by omega)
 have w2 : wrap64 ((n : Int) + 1) = ((n + 1 : Nat) : Int) := by rw [IntWalk.wrap64_in _ (by omega)]; omega
 refine Runs.congr (Runs.succ (g := fun k => D.dist_Binomial.j0 k n p q false) (Runs.bind (f := fun k bt128 => (if bt128.2 = 0 then ((D.dist_powers.f k (q - p) n).bind fun bt132 => (if bt132.2 = 0 then (D.dist_Binomial.l0 k n bt128.1 bt132.1 ([] : List (S60)) ((n + 1 : Nat) : Int) 0) else (some (([] : List (S60)), bt132.2)))) else (some (([] : List (S60)), bt128.2)))) h1 ?_) fun k => ?_) fun k => ?_
 ·refine Runs.pos rfl ?_
  refine Runs.bind h2 ?_
  exact Runs.pos rfl h3
 ·rw [D.dist_Binomial.j0, if_neg (by decide), w1, w2]
 ·unfold D.dist_Binomial.f
  rw [if_neg (by omega), if_neg (by omega), if_neg (by omega), if_neg (by omega), if_neg (by omega), decide_eq_false (by omega)]
theorem same_l0 (l : List S60) (hl : l.length ≤ 4611686018427387904) (d i : Nat) (hd : i + d = l.length) : Runs (fun k => D.metrolabref26_Same.l0 k l l i) true := by
 induction d generalizing i with
 | zero =>
  refine Runs.succ (Runs.pure _) fun k => ?_
  rw [D.metrolabref26_Same.l0, if_neg (by omega)]
 | succ d ih =>
  refine Runs.succ (ih (i + 1) (by omega)) fun k => ?_
  rw [D.metrolabref26_Same.l0, if_pos (by omega), if_pos (by omega), if_pos (by omega), if_neg (by simp), IntWalk.wrap64_in _ (by omega)]; rfl
theorem same_run (l : List S60) (hl : l.length ≤ 4611686018427387904) : Runs (fun k => D.metrolabref26_Same.f k l l) true := by
 unfold D.metrolabref26_Same.f
 exact Runs.pos rfl (same_l0 l hl l.length 0 (by omega))
theorem dwithin_f (n : Int) : D.dist_within.f n = some (decide (-1048576 ≤ n ∧ n ≤ 1048576)) := by
 unfold D.dist_within.f
 by_cases h : n ≥ -1048576
 ·rw [if_pos h]
  by_cases h2 : n ≤ 1048576
  ·rw [decide_eq_true h2, decide_eq_true ⟨h, h2⟩]
  ·rw [decide_eq_false h2, decide_eq_false (fun h3 => h2 h3.2)]
 ·rw [if_neg h, decide_eq_false (fun h3 => h h3.1)]
theorem sc_round (m b u v : Int) (l acc : List S60) (i : Nat) (hi : i < l.length) (hl : l.length ≤ 4096) (ha : acc.length ≤ 4096) (hu : m * l[i].f0 = u) (hv : u + b = v) (hu0 : -9000000000000000000 ≤ u ∧ u ≤ 9000000000000000000) (hin : -1048576 ≤ v ∧ v ≤ 1048576) (k : Nat) :
  D.dist_Scale.l0 (k + 1) m b acc l (l.length : Int) i = D.dist_Scale.l0 k m b (acc ++ [⟨v, l[i].f1⟩]) l (l.length : Int) ((i + 1 : Nat) : Int) := by
 have hg := prs_get l i hi
 rw [D.dist_Scale.l0, if_pos (by omega), if_pos (by omega), if_pos (by omega), hg, hu, IntWalk.wrap64_in u (by omega), hv, IntWalk.wrap64_in v (by omega), dwithin_f, Option.bind_some, decide_eq_true hin, if_pos rfl, if_pos (by omega), IntWalk.wrap64_in _ (by omega)]
 rfl
theorem rev3 (a b c : S60) : Runs (fun k => D.api_Weighted.f k [a, b, c]) [c, b, a] := by
 have w1 : wrap64 ((([a, b, c] : List S60).length : Int) - 1) = 2 := by rw [IntWalk.wrap64_in _ (by simp)]; rfl
 have w2 : wrap64 ((0 : Int) + 1) = 1 := by rw [IntWalk.wrap64_in _ (by decide)]; rfl
 have w3 : wrap64 ((2 : Int) - 1) = 1 := by rw [IntWalk.wrap64_in _ (by decide)]; rfl
 refine Runs.congr (Runs.succ (Runs.succ (Runs.pure _) (g := fun k => D.api_Weighted.l0 k [c, b, a] 1 1) fun k => ?_) (g := fun k => D.api_Weighted.l0 k [a, b, c] 0 2) fun k => ?_) fun k => ?_
 ·rw [D.api_Weighted.l0, if_neg (by decide)]
 ·rw [D.api_Weighted.l0, if_pos (by decide), if_pos (by decide), if_pos (by simp), if_pos (by decide), if_pos (by simp), w2, w3]; rfl
 ·unfold D.api_Weighted.f; rw [w1]
theorem samp_scale : Runs (fun k => D.dist_Scale.f k samp (-2) 10) ([⟨2, itx 1⟩, ⟨6, itx 2⟩, ⟨8, itx 1⟩], 0) := by
 unfold D.dist_Scale.f
 rw [dcheck_f samp samp_fine, dwithin_f, dwithin_f]
 simp only [Option.bind_some]
 refine Runs.pos samp_dck (Runs.neg (by decide) (Runs.pos (by decide) (Runs.pos (by decide) ?_)))
 refine Runs.succ (Runs.succ (Runs.succ (Runs.succ (Runs.bind (f := fun _ t => some (t, (0 : Int))) (rev3 ⟨8, itx 1⟩ ⟨6, itx 2⟩ ⟨2, itx 1⟩) (Runs.pure _)) (g := fun k => D.dist_Scale.l0 k (-2) 10 [⟨8, itx 1⟩, ⟨6, itx 2⟩, ⟨2, itx 1⟩] samp (samp.length : Int) ((3 : Nat) : Int)) fun k => ?_) (g := fun k => D.dist_Scale.l0 k (-2) 10 [⟨8, itx 1⟩, ⟨6, itx 2⟩] samp (samp.length : Int) ((2 : Nat) : Int)) fun k => ?_) (g := fun k => D.dist_Scale.l0 k (-2) 10 [⟨8, itx 1⟩] samp (samp.length : Int) ((1 : Nat) : Int)) fun k => ?_) fun k => ?_
 ·rw [D.dist_Scale.l0, if_neg (by decide), if_pos (by decide)]
 ·exact sc_round (-2) 10 (-8) 2 samp _ 2 (by decide) (by decide) (by simp) (by decide) (by decide) (by decide) (by decide) k
 ·exact sc_round (-2) 10 (-4) 6 samp _ 1 (by decide) (by decide) (by simp) (by decide) (by decide) (by decide) (by decide) k
 ·exact sc_round (-2) 10 (-2) 8 samp _ 0 (by decide) (by decide) (by simp) (by decide) (by decide) (by decide) (by decide) k
theorem bin_ex : binl 3 1 2 4 = [⟨0, itx 8⟩, ⟨1, itx 12⟩, ⟨2, itx 6⟩, ⟨3, itx 1⟩] := by
 have e0 : binw 3 1 2 0 = 8 := by decide
 have e1 : binw 3 1 2 1 = 12 := by decide
 have e2 : binw 3 1 2 2 = 6 := by decide
 have e3 : binw 3 1 2 3 = 1 := by decide
 simp [binl, e0, e1, e2, e3]
theorem one_digit (n : Nat) (h : n < 10) : (⟨#[UInt8.ofNat (48 + n)]⟩ : ByteArray) = itx (n : Int) := by
 have := itx_one_digit n h
 rw [Lib.toList_data] at this
 rw [← Lib.mk_data (itx (n : Int)), this]
theorem twelve_text : (⟨#[49, 50]⟩ : ByteArray) = itx 12 := by
 have := itx_two_digits 12 (by decide) (by decide)
 rw [Lib.toList_data] at this
 rw [show (12 : Int) = ((12 : Nat) : Int) from rfl, ← Lib.mk_data (itx ((12 : Nat) : Int)), this]; rfl
theorem awake_run : Runs (fun k => D.metrolablaw26_awake.f k) true := by
 have m := samp_fine.ok
 have f1 : D.dist_Mean.f samp = some (rtx (Rat.divInt 9 4), 0) := by unfold D.dist_Mean.f; rw [if_pos m, samp_mean]
 have f2 : D.dist_Variance.f samp = some (rtx (Rat.divInt 19 16), 0) := by unfold D.dist_Variance.f; rw [if_pos m, samp_var]
 have f3 : D.dist_Probability.f samp 2 3 = some (rtx (Rat.divInt 1 2), 0) := by
  rw [dprob_f samp samp_fine, samp_prob 2 3 (by decide), sum_p23, (Rat.divInt_eq_divInt_iff (n₂ := 1) (d₂ := 2) (by decide) (by decide)).2 (by decide)]
 have h8 : (⟨#[56]⟩ : ByteArray) = itx 8 := one_digit 8 (by decide)
 have h6 : (⟨#[54]⟩ : ByteArray) = itx 6 := one_digit 6 (by decide)
 have b := dbin_run 3 1 3 (by decide) (by decide) (by decide) (by decide) (by decide)
 rw [show (3 : Int) - 1 = 2 from rfl, bin_ex] at b
 unfold D.metrolablaw26_awake.f
 rw [sample_f]
 simp only [Option.bind_some, f1, f2, f3]
 refine Runs.bind samp_quant (Runs.bind b (Runs.bind samp_scale ?_))
 refine Runs.pos (by simp [wrap64]) ?_
 refine Runs.pos txt_mean (Runs.pos txt_var (Runs.pos txt_half (Runs.pos rfl ?_)))
 rw [h8, h6, twelve_text, one_text, two_text]
 refine Runs.bind (same_run _ (by simp)) (Runs.pos rfl ?_)
 exact Runs.bind (same_run _ (by simp)) (Runs.pure _)
end Go.Proofs.YtkdpcgmnkifbbaaGreatDoor
end
section
namespace Go.Proofs.YtkdpcgmnkifbbaaGreatDoor
open Go.RowKit Go.Proofs.YtkdpcgmnkifbbaaGreatDoorW.PrintWords Go.Proofs.YtkdpcgmnkifbbaaGreatDoorW.PrintMore
open D (S60 prs)
theorem places_awake (l : List S60) (p : ByteArray) (lo hi : Int) : Runs (fun k => D.metrolablaw26_DistPlaces.j0 k l p true lo hi) true := by
 refine Runs.succ (Runs.bind (f := fun _ t230 => some t230) awake_run (Runs.pure _)) fun k => ?_
 rw [D.metrolablaw26_DistPlaces.j0, if_pos rfl]
theorem places_run (l : List S60) (lo hi : Int) (p : ByteArray) (hsz : szs l) (hl : l.length ≤ 4611686018427387904) (hp : p.size ≤ 140737488351232) : Runs (fun k => D.metrolablaw26_DistPlaces.f k l lo hi p) true := by
 unfold D.metrolablaw26_DistPlaces.f
 obtain ⟨b, hb, hbt⟩ := few_f l hl
 refine Runs.bind hb ?_
 cases b
 ·exact Runs.neg (by decide) (places_awake l p lo hi)
 ·refine Runs.pos rfl ?_
  have hs : D.metrolabref02_Short.f p = some (decide ((cutF p).1.size ≤ 30 ∧ (cutF p).2.1.size ≤ 30)) := by unfold D.metrolabref02_Short.f; rw [if_pos (by omega)]
  rw [hs]
  simp only [Option.bind_some]
  by_cases hsh : (cutF p).1.size ≤ 30 ∧ (cutF p).2.1.size ≤ 30
  ·rw [decide_eq_true hsh]
   have hf := fine_few hsz hl (hbt rfl)
   obtain ⟨r, r1, r2⟩ := quant_run l hf p hp hsh.1 hsh.2
   have hpr := prob_run l hf lo hi
   have hmain : Runs (fun k => (D.dist_Probability.f l lo hi).bind fun bt231 => ((D.metrolabref26_Probability.f k l lo hi).bind fun bt233 => ((D.dist_Quantile.f k l p).bind fun bt235 => ((D.metrolabref26_Quantile.f k l p).bind fun bt237 => ((D.metrolablaw26_awake.f k).bind fun t239 => (if t239 = true then (if bt231.1.toList = bt233.1.toList then (if bt231.2 = bt233.2 then (if bt235.1 = bt237.1 then (some (bt235.2 == bt237.2)) else (some false)) else (some false)) else (some false)) else (some false))))))) true := by
    rw [dprob_f l hf]
    simp only [Option.bind_some]
    refine Runs.bind hpr (Runs.bind r1 (Runs.bind r2 (Runs.bind awake_run ?_)))
    refine Runs.pos rfl (Runs.pos rfl (Runs.pos rfl (Runs.pos rfl ?_)))
    rw [show (r.2 == r.2) = true from beq_self_eq_true _]
    exact Runs.pure _
   refine Runs.succ hmain fun k => ?_
   rw [D.metrolablaw26_DistPlaces.j0]; rfl
  ·rw [decide_eq_false hsh]
   exact places_awake l p lo hi
end Go.Proofs.YtkdpcgmnkifbbaaGreatDoor
end
