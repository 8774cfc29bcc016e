/- Joined by a program of this session out of its texts, with only what the last theorem needs: Wx We Qx0 Rx0 Wp Wq. No conditions but those stated. -/
import Derived.Test.YtkdpcgmnkifbbaaGreatDoorZC07
import Derived.Test.YtkdpcgmnkifbbaaGreatDoorProg
import Derived.Below
import Derived.Deep.Draws
import Derived.Deep.AppendLies
import Derived.Maps.AppendAt
import Derived.OwnWalk
import Derived.Laws.BytesArg
import Derived.Laws.MakeOwn
import Derived.Laws.OwnMore
import Derived.Deep.OwnRows
import Derived.Tactics
import Derived.Lib.ConvBytes
import Derived.Laws.Slices
import Derived.WalkKit
import Derived.KernelRfl
import Derived.RowKit3
import Derived.Deep.LoopGhost
import Derived.Deep.QuietTactic
import Derived.BigQuiet
import Derived.WideLaws
import Derived.Deep.DeepCutAuto
import Derived.Deep.CutBlock
import Derived.Deep.RegionHeld3
import Derived.Laws.Rows
import Derived.Lib.AppendStr
import Derived.ArgAppend
import Derived.Laws.IdiomCopy
import Derived.OrdersHeld
import Derived.Laws.BitsLemmas
import Derived.RowKit
import Derived.Test.YtkdpcgmnkifbbaaGreatDoorZC05
import Derived.Test.YtkdpcgmnkifbbaaGreatDoorZC04
import Derived.Test.YtkdpcgmnkifbbaaGreatDoorZC06
import Derived.Deep.WholeRow
import Derived.Laws.CopyOwn
import Derived.Deep.RegionLaw
set_option linter.unusedVariables false
set_option linter.unusedSimpArgs false
namespace Go.Proofs.YtkdpcgmnkifbbaaGreatDoorW.PrintLast
end Go.Proofs.YtkdpcgmnkifbbaaGreatDoorW.PrintLast
namespace Go.Proofs.YtkdpcgmnkifbbaaGreatDoorW.PrintMore
end Go.Proofs.YtkdpcgmnkifbbaaGreatDoorW.PrintMore
namespace Go.Proofs.YtkdpcgmnkifbbaaGreatDoorW.PrintWords
end Go.Proofs.YtkdpcgmnkifbbaaGreatDoorW.PrintWords
section
namespace Go.Proofs.YtkdpcgmnkifbbaaGreatDoor
open Go.RowKit
theorem zeroWide : Tryz.zeroCells119 = (wcells false 0 (wds 0)).toArray := by kernel_rfl
theorem Mg.fresh (w : World) (s : Bool) : Mg (w.alloc (.cells (Tryz.zeroCells119.setIfInBounds 0 (.bool s)) 119)) w.heap.size s 0 := by
 refine ⟨BB_pos 232, ⟨?_, wds_len 0⟩⟩
 rw [show (w.alloc (.cells (Tryz.zeroCells119.setIfInBounds 0 (.bool s)) 119)).heap = w.heap.push (.cells (Tryz.zeroCells119.setIfInBounds 0 (.bool s)) 119) from rfl, Array.getElem?_push_size, zeroWide, nw_zero]
 simp [wcells]
theorem Mg.fresh0 (w : World) : Mg (w.alloc (.cells Tryz.zeroCells119 119)) w.heap.size false 0 := by
 refine ⟨BB_pos 232, ⟨?_, wds_len 0⟩⟩
 rw [show (w.alloc (.cells Tryz.zeroCells119 119)).heap = w.heap.push (.cells Tryz.zeroCells119 119) from rfl, Array.getElem?_push_size, zeroWide, nw_zero]
 rfl
theorem Mg.below {w w' : World} {b : Nat} {s : Bool} {m : Nat} (h : Mg w b s m) (hb : Below w.heap.size w w') : Mg w' b s m :=
 h.grown (c := none) ⟨hb.os, hb.tape, hb.output, hb.size, fun i hi _ => hb.block i hi⟩ (by simp)
theorem times_step (m k i : Nat) : ((m * (k % BB ^ (i + 1)) : Nat) : Int) = ((m * (k % BB ^ i) : Nat) : Int) + (wd k i : Int) * ((m * BB ^ i : Nat) : Int) := by
 rw [mod_wd]
 generalize BB ^ i = p
 generalize k % p = y
 generalize wd k i = v
 have e : m * (p * v + y) = m * y + v * (m * p) := by
  rw [Nat.mul_add, Nat.mul_comm p v, Nat.mul_left_comm, Nat.add_comm]
 rw [e]
 exact Int.natCast_add _ _
set_option maxRecDepth 100000 in
set_option maxHeartbeats 2000000 in
theorem times_calls (bx bz : Nat) (sx sy : Bool) (m k : Nat) (w : World) (hx : Mg w bx sx m) (hy : Mg w bz sy k) (hmk : m * k < BB ^ 232) (hr : nw m + nw k ≤ 232) :
  Calls Tryz.prog 94 #[.pointer (some ⟨bx, 0, none⟩), .pointer (some ⟨bz, 0, none⟩)] w fun e w' => ∃ g, e = .returned (.pointer (some ⟨g, 0, none⟩)) ∧ w.heap.size ≤ g ∧ Mg w' g (sx != sy) (m * k) ∧ Below w.heap.size w w' := by
 have c0 := hx.c0
 have d0 := hy.c0
 have d1 := hy.c1
 have hnk := hy.nw
 have bl := hx.blt
 have HX := Lib.hid hx; clear hx
 have HY := Lib.hid hy; clear hy
 have HMK := Lib.hid hmk; clear hmk
 have HR := Lib.hid hr; clear hr
 have hbz := HY.out.blt
 generalize hK : nw k = K at d1 hnk
 have HK := Lib.hid hK; clear hK
 go_enter Tryz.func94, Tryz.ntmps94
 go_wp2
 go_region
 have hf : Mg (w.alloc (Obj.cells (Tryz.zeroCells119.setIfInBounds 0 (Value.bool (!sx == sy))) 119)).drew w.heap.size (!sx == sy) 0 := (Mg.fresh w _).drewN 1
 have hb1 : Below w.heap.size w (w.alloc (Obj.cells (Tryz.zeroCells119.setIfInBounds 0 (Value.bool (!sx == sy))) 119)).drew := ((Below.refl _ _).alloc (Nat.le_refl _) _).drew
 generalize hw1 : (w.alloc (Obj.cells (Tryz.zeroCells119.setIfInBounds 0 (Value.bool (!sx == sy))) 119)).drew = w1 at hf hb1 ⊢
 clear hw1
 have HF := Lib.hid hf; clear hf
 have HB1 := Lib.hid hb1; clear hb1
 have d2 : w1.cell? ⟨bz, 1, none⟩ = some (.int .i64 (K : Int)) := by have := (HY.out.below HB1.out).c1; rwa [HK.out] at this
 go_wp2
 go_loopg [22] K (fun g v wr => ∃ i : Nat, v = .int .i64 (i : Int) ∧ g + i = K ∧ Hid (Mg wr w.heap.size (!sx == sy) (m * (k % BB ^ i))) ∧ Hid (Below w.heap.size w wr))
 case atStart => exact ⟨0, rfl, by omega, Lib.hid (by simpa [Nat.mod_one] using HF.out), HB1⟩
 case round =>
  obtain ⟨i, rfl, hg, HI, HB⟩ := hrel
  rcases Nat.eq_zero_or_pos gk with h0 | h0
  ·obtain rfl : i = K := by omega
   go_wp2
   go_ret
   refine ⟨w.heap.size, rfl, Nat.le_refl _, ?_, HB.out⟩
   have h1 := HI.out
   rw [Nat.mod_eq_of_lt (Nat.lt_of_lt_of_le (lt_nw k) (by rw [HK.out]; exact Nat.le_refl _))] at h1
   rw [show (sx != sy) = (!sx == sy) by cases sx <;> cases sy <;> rfl]
   exact h1
  ·obtain ⟨g', rfl⟩ : ∃ g', gk = g' + 1 := ⟨gk - 1, by omega⟩
   have dy := (HY.out.below HB.out).cw i (by omega)
   have hi232 : (i : Int) < 232 := by omega
   have hiK : (i : Int) < (K : Int) := by omega
   have hv := wd_lt k i
   have hcall := carry_calls w.heap.size bx (!sx == sy) sx (m * (k % BB ^ i)) m (m * (k % BB ^ (i + 1))) (wd k i : Int) i wr HI.out (HX.out.below HB.out) (by omega) (by omega) (by omega)
    (by have h1 := HR.out; have h2 := HK.out; omega)
    (times_step m k i)
    (Nat.lt_of_le_of_lt (Nat.mul_le_mul_left _ (Nat.mod_le _ _)) HMK.out)
   have HC := Lib.hid hcall; clear hcall
   generalize (wd k i : Int) = v at dy HC
   clear hv
   go_wp2_with fail
   refine HC.out.mono ?_
   rintro e w' ⟨rfl, h1, h2⟩
   have H1 := Lib.hid h1; clear h1
   have H2 := Lib.hid h2; clear h2
   go_wp2
   go_roundg g'
   case measure => omega
   case rel => exact ⟨i + 1, by go_num, by omega, H1, Lib.hid (below_gby HB.out (Nat.le_refl _) HB.out.size H2.out)⟩
end Go.Proofs.YtkdpcgmnkifbbaaGreatDoor
end
section
namespace Go.Proofs.YtkdpcgmnkifbbaaGreatDoor
open Go.RowKit
def tp (m : Nat) (i : Int) : Int := if 0 ≤ i then (wd m i.toNat : Int) else 0
theorem tp_bounds (m : Nat) (i : Int) : 0 ≤ tp m i ∧ tp m i < 1000000000 := by
 unfold tp
 have := wd_lt m i.toNat
 split <;> omega
set_option maxRecDepth 100000 in
set_option maxHeartbeats 1000000 in
theorem top_calls (b : Nat) (s : Bool) (m : Nat) (i : Int) (w : World) (hx : Mg w b s m) (hi : i ≤ 232) :
  Calls Tryz.prog 157 #[.pointer (some ⟨b, 0, none⟩), .int .i64 i] w fun e w' => e = .returned (.int .i64 (tp m i)) ∧ w = w' := by
 have hn := hx.nw
 have c1 := hx.c1
 have HX := Lib.hid hx; clear hx
 generalize hN : nw m = N at c1 hn
 have HN := Lib.hid hN; clear hN
 by_cases h0 : i < 0
 ·have hfin : tp m i = 0 := by unfold tp; rw [if_neg (by omega)]
  have HF := Lib.hid hfin; clear hfin
  go_enter Tryz.func157, Tryz.ntmps157
  go_wp2
  go_ret
  exact ⟨by rw [HF.out]; rfl, rfl⟩
 ·by_cases h1 : (N : Int) ≤ i
  ·have hfin : tp m i = 0 := by
    unfold tp; rw [if_pos (by omega), wd_zero_of_ge (by rw [HN.out]; omega)]; rfl
   have HF := Lib.hid hfin; clear hfin
   go_enter Tryz.func157, Tryz.ntmps157
   go_wp2
   go_ret
   exact ⟨by rw [HF.out]; rfl, rfl⟩
  ·have hfin : tp m i = (wd m i.toNat : Int) := by unfold tp; rw [if_pos (by omega)]
   have HF := Lib.hid hfin; clear hfin
   have ck := HX.out.cw i.toNat (by omega)
   have hi1 : 0 ≤ i := by omega
   have hi2 : i < 232 := by omega
   go_enter Tryz.func157, Tryz.ntmps157
   go_wp2
   go_ret
   exact ⟨by rw [HF.out]; rfl, rfl⟩
theorem div_top {k : Nat} (h : 0 < nw k) : k / BB ^ (nw k - 1) = wd k (nw k - 1) := by
 have h1 := div_wd k (nw k - 1)
 rw [show nw k - 1 + 1 = nw k by omega, Nat.div_eq_of_lt (lt_nw k)] at h1
 omega
theorem estimate_le {m k r n : Nat} {b : Int} (hn : nw k = n + 1) (hb : b = (if 1 < nw k then tp k ((nw k : Int) - 1) + 1 else tp k ((nw k : Int) - 1)))
  (hr : (r : Int) ≤ (tp m (nw k) * 1000000000 + tp m ((nw k : Int) - 1)) / b) (hb0 : 0 < b) : r * k ≤ m := by
 have h1 : (r : Int) * b ≤ tp m (nw k) * 1000000000 + tp m ((nw k : Int) - 1) := (Int.le_ediv_iff_mul_le hb0).1 hr
 have t1 : tp m (nw k) = (wd m (n + 1) : Int) := by unfold tp; rw [if_pos (by omega), hn]; rfl
 have t2 : tp m ((nw k : Int) - 1) = (wd m n : Int) := by unfold tp; rw [if_pos (by omega), show ((nw k : Int) - 1).toNat = n by omega]
 have t3 : tp k ((nw k : Int) - 1) = (wd k n : Int) := by unfold tp; rw [if_pos (by omega), show ((nw k : Int) - 1).toNat = n by omega]
 have h2 := div_top (k := k) (by omega)
 rw [hn] at h2
 simp only [Nat.add_sub_cancel] at h2
 have h3 := div_wd m n
 have h4 := div_wd m (n + 1)
 have hp := BB_pos n
 have h5 : tp m (nw k) * 1000000000 + tp m ((nw k : Int) - 1) ≤ ((m / BB ^ n : Nat) : Int) := by
  rw [t1, t2, h3, h4]
  simp only [BB_eq]
  omega
 have h6 : (r : Int) * b ≤ ((m / BB ^ n : Nat) : Int) := Int.le_trans h1 h5
 obtain ⟨c, rfl⟩ : ∃ c : Nat, b = (c : Int) := ⟨b.toNat, by omega⟩
 have h7 : r * c ≤ m / BB ^ n := by exact_mod_cast h6
 have h8 : r * c * BB ^ n ≤ m := (Nat.le_div_iff_mul_le hp).1 h7
 refine Nat.le_trans ?_ h8
 rw [Nat.mul_assoc]
 refine Nat.mul_le_mul_left r ?_
 rw [hn, ← hn, t3] at hb
 by_cases h9 : 1 < nw k
 ·rw [if_pos h9] at hb
  have : k < (k / BB ^ n + 1) * BB ^ n := by
   have := Nat.lt_div_mul_add (a := k) hp
   rw [Nat.add_mul]; omega
  rw [show c = k / BB ^ n + 1 by omega]
  omega
 ·rw [if_neg h9] at hb
  have hn0 : n = 0 := by omega
  subst hn0
  simp at h2 ⊢
  omega
def EstPost (m k : Nat) (w : World) (e : Ending) (w' : World) : Prop := ∃ r : Nat, e = .returned (.int .i64 r) ∧ 1 ≤ r ∧ r ≤ 999999999 ∧ r * k ≤ m ∧ Drawn w w'
set_option maxRecDepth 100000 in
set_option maxHeartbeats 2000000 in
theorem estimate_calls (bx bz : Nat) (sx sy : Bool) (m k : Nat) (w : World) (hx : Mg w bx sx m) (hy : Mg w bz sy k) (h0 : 0 < k) (hle : k ≤ m) :
  Calls Tryz.prog 134 #[.pointer (some ⟨bx, 0, none⟩), .pointer (some ⟨bz, 0, none⟩)] w (EstPost m k w) := by
 have hn2 := hy.nw
 have c2 := hy.c1
 have HX := Lib.hid hx; clear hx
 have HY := Lib.hid hy; clear hy
 have hkpos : 0 < nw k := by
  rcases Nat.eq_zero_or_pos (nw k) with h | h
  ·have := lt_nw k; rw [h] at this; simp at this; omega
  ·exact h
 have ha := tp_bounds m (nw k)
 have hb := tp_bounds m ((nw k : Int) - 1)
 have hc := tp_bounds k ((nw k : Int) - 1)
 have hc0 : 0 < tp k ((nw k : Int) - 1) := by
  have := wd_top hkpos
  unfold tp
  rw [if_pos (by omega), show ((nw k : Int) - 1).toNat = nw k - 1 by omega]
  omega
 have hest := fun (r : Nat) (b : Int) => estimate_le (m := m) (k := k) (r := r) (n := nw k - 1) (b := b) (by omega)
 have HE := Lib.hid hest; clear hest
 have tc := fun (i : Int) (h : i ≤ 232) (W : World) (hW : Mg W bx sx m) => top_calls bx sx m i W hW h
 generalize hN : nw k = N at c2 hn2 ha hb hc hc0 hkpos HE
 have HN := Lib.hid hN; clear hN
 obtain ⟨ha1, ha2⟩ := ha
 obtain ⟨hb1, hb2⟩ := hb
 obtain ⟨_, hc2⟩ := hc
 go_enter Tryz.func134, Tryz.ntmps134
 have hq1 := fun (i : Int) (h : i ≤ 232) (n : Nat) => (top_calls bx sx m i (w.drewN n) (HX.out.drewN n) h).mono (R' := fun e w' => e = .returned (.int .i64 (tp m i)) ∧ w' = w.drewN n) (fun e w' ⟨a, b⟩ => ⟨a, b.symm⟩)
 have hq2 := fun (i : Int) (h : i ≤ 232) (n : Nat) => (top_calls bz sy k i (w.drewN n) (HY.out.drewN n) h).mono (R' := fun e w' => e = .returned (.int .i64 (tp k i)) ∧ w' = w.drewN n) (fun e w' ⟨a, b⟩ => ⟨a, b.symm⟩)
 have HQ1 := Lib.hid hq1; clear hq1
 have HQ2 := Lib.hid hq2; clear hq2
 clear tc
 go_wp2
 go_quiet ((first | (go_at_call 157; with_reducible exact Calls.quiet_of_same (HQ1.out _ (by omega) _)) | (go_at_call 157; with_reducible exact Calls.quiet_of_same (HQ2.out _ (by omega) _))))
 generalize tp m (N : Int) = a at *
 generalize tp m ((N : Int) - 1) = b at *
 generalize tp k ((N : Int) - 1) = c at *
 by_cases hN1 : (1 : Int) < (N : Int)
 ·have hE := fun r => HE.out r (c + 1) (by rw [if_pos (by omega)])
  clear HE
  have HE := Lib.hid hE; clear hE
  obtain ⟨q, hq⟩ : ∃ q : Int, (a * 1000000000 + b) / (c + 1) = q := ⟨_, rfl⟩
  have hq1 : 0 ≤ q := by rw [← hq]; exact Int.ediv_nonneg (by omega) (by omega)
  have hq9 : q ≤ 1000000000000000000 := by rw [← hq]; exact Int.le_trans (Int.ediv_le_self _ (by omega)) (by omega)
  have HE2 := Lib.hid (fun (r : Nat) (h : (r : Int) ≤ q) => HE.out r (by rw [hq]; exact h) (by omega))
  clear HE
  by_cases hq0 : 0 < q
  ·by_cases hqm : q < 999999999
   ·have hqm2 : ¬ (999999999 < q) := by omega
    go_wp2
    clear hq
    go_ret
    exact ⟨q.toNat, by rw [show ((q.toNat : Nat) : Int) = q by omega]; rfl, by omega, by omega, HE2.out _ (by omega), (Drawn.refl w).step _⟩
   ·by_cases hqe : q = 999999999
    ·subst hqe
     go_wp2
     clear hq
     go_ret
     exact ⟨999999999, rfl, by omega, by omega, HE2.out _ (by omega), (Drawn.refl w).step _⟩
    ·have hqm2 : 999999999 < q := by omega
     go_wp2
     clear hq
     go_ret
     exact ⟨999999999, rfl, by omega, by omega, HE2.out _ (by omega), (Drawn.refl w).step _⟩
  ·go_wp2
   clear hq
   go_ret
   exact ⟨1, rfl, by omega, by omega, by omega, (Drawn.refl w).step _⟩
 ·have hE := fun r => HE.out r (c) (by rw [if_neg (by omega)])
  clear HE
  have HE := Lib.hid hE; clear hE
  obtain ⟨q, hq⟩ : ∃ q : Int, (a * 1000000000 + b) / (c) = q := ⟨_, rfl⟩
  have hq1 : 0 ≤ q := by rw [← hq]; exact Int.ediv_nonneg (by omega) (by omega)
  have hq9 : q ≤ 1000000000000000000 := by rw [← hq]; exact Int.le_trans (Int.ediv_le_self _ (by omega)) (by omega)
  have HE2 := Lib.hid (fun (r : Nat) (h : (r : Int) ≤ q) => HE.out r (by rw [hq]; exact h) (by omega))
  clear HE
  by_cases hq0 : 0 < q
  ·by_cases hqm : q < 999999999
   ·have hqm2 : ¬ (999999999 < q) := by omega
    go_wp2
    clear hq
    go_ret
    exact ⟨q.toNat, by rw [show ((q.toNat : Nat) : Int) = q by omega]; rfl, by omega, by omega, HE2.out _ (by omega), (Drawn.refl w).step _⟩
   ·by_cases hqe : q = 999999999
    ·subst hqe
     go_wp2
     clear hq
     go_ret
     exact ⟨999999999, rfl, by omega, by omega, HE2.out _ (by omega), (Drawn.refl w).step _⟩
    ·have hqm2 : 999999999 < q := by omega
     go_wp2
     clear hq
     go_ret
     exact ⟨999999999, rfl, by omega, by omega, HE2.out _ (by omega), (Drawn.refl w).step _⟩
  ·go_wp2
   clear hq
   go_ret
   exact ⟨1, rfl, by omega, by omega, by omega, (Drawn.refl w).step _⟩
end Go.Proofs.YtkdpcgmnkifbbaaGreatDoor
end
section
namespace Go.Proofs.YtkdpcgmnkifbbaaGreatDoor.Q
open Go.RowKit Go.Proofs.YtkdpcgmnkifbbaaGreatDoorW.PrintWords Go.Proofs.YtkdpcgmnkifbbaaGreatDoorW.PrintLast Go.Proofs.YtkdpcgmnkifbbaaGreatDoorW.PrintMore
attribute [local go_sem] max2_int min2_int max_two min_two max_three min_three max_four min_four
set_option linter.unusedVariables false
set_option linter.unusedSimpArgs false
def errW : Option Int → Value
 | none => .nilIface
 | some c => .iface 0 (.int .i64 c)
theorem errW_none : errW none = .nilIface := rfl
theorem errW_some (c : Int) : errW (some c) = .iface 0 (.int .i64 c) := rfl
end Go.Proofs.YtkdpcgmnkifbbaaGreatDoor.Q
end
section
namespace Go.Proofs.YtkdpcgmnkifbbaaGreatDoor.R
open Go.RowKit Go.Proofs.YtkdpcgmnkifbbaaGreatDoorW.PrintWords Go.Proofs.YtkdpcgmnkifbbaaGreatDoorW.PrintLast Go.Proofs.YtkdpcgmnkifbbaaGreatDoorW.PrintMore
attribute [local go_sem] max2_int min2_int max_two min_two max_three min_three max_four min_four
set_option linter.unusedVariables false
set_option linter.unusedSimpArgs false
def errW : Option Int → Value
 | none => .nilIface
 | some c => .iface 0 (.int .i64 c)
theorem errW_none : errW none = .nilIface := rfl
theorem errW_some (c : Int) : errW (some c) = .iface 0 (.int .i64 c) := rfl
theorem info3 : (Tryz.prog.info? 3).map (fun i => (i.zero, i.size, i.bytes)) = some (some (.int .i64 0), 1, 8) := by kernel_rfl
theorem info5 : (Tryz.prog.info? 5).map (fun i => (i.zero, i.size, i.bytes)) = some (some (.int .u8 0), 1, 1) := by kernel_rfl
theorem info39 : (Tryz.prog.info? 39).map (fun i => (i.zero, i.size, i.bytes)) = some (some (.string ⟨#[]⟩), 1, 16) := by kernel_rfl
end Go.Proofs.YtkdpcgmnkifbbaaGreatDoor.R
end
section
namespace Go.Proofs.YtkdpcgmnkifbbaaGreatDoor
open Go.RowKit
theorem wcells_size (s : Bool) (n : Int) {ws : List Int} (h : ws.length = 232) : (wcells s n ws).toArray.size = 234 := by simp [wcells, h]
theorem wcells_one (s : Bool) (n : Int) (ws : List Int) : (wcells s n ws).toArray.all (·.oneCell') = true := by
 simp [wcells, Value.oneCell']
theorem info_wide : (Tryz.prog.info? 119).map (·.size) = some 234 := by kernel_rfl
theorem Wd.setRow {w : World} {b : Nat} {old : Array Value} (h : w.heap[b]? = some (.cells old 119 (0, 0))) {s : Bool} {n : Int} {ws : List Int} (hl : ws.length = 232) : Wd (w.setRow b (wcells s n ws).toArray) b s n ws :=
 ⟨setRow_heap w b old _ _ _ h, hl⟩
theorem gby_setRow {w w1 : World} {b : Nat} (h : w.grownBy w1 (some b)) (c : Array Value) : w.grownBy (w1.setRow b c) (some b) :=
 gby_trans h ⟨rfl, rfl, rfl, by simp [World.setRow], fun i _ hc => setRow_other w1 b i c (fun e => hc (by simp [e]))⟩
theorem below_setRow' {B g : Nat} {w0 w : World} (hb : Below B w0 w) (hBg : B ≤ g) (cs : Array Value) : Below B w0 (w.setRow g cs) :=
 hb.trans ⟨rfl, rfl, rfl, by simp [World.setRow], fun k hk => setRow_other w g k cs (by omega)⟩
set_option maxRecDepth 100000 in
set_option maxHeartbeats 2000000 in
theorem plus_big (bx bz : Nat) (sx sy : Bool) (m k : Nat) (w : World) (hx : Mg w bx sx m) (hy : Mg w bz sy k) (hne : bz ≠ bx) (hs : (sx == sy) = false) (hmk : m < k) :
  Calls Tryz.prog 139 #[.pointer (some ⟨bx, 0, none⟩), .pointer (some ⟨bz, 0, none⟩)] w fun e w' => e = .returned (.tuple #[]) ∧ Mg w' bx sy (k - m) ∧ w.grownBy w' (some bx) := by
 have c0 := hx.c0
 have d0 := hy.c0
 have HX := Lib.hid hx; clear hx
 have HY := Lib.hid hy; clear hy
 go_enter Tryz.func139, Tryz.ntmps139
 go_wp2
 go_quiet (fail)
 go_wp2_with fail
 refine (beyond_calls bx bz sx sy m k _ (HX.out.drewN _) (HY.out.drewN _)).mono ?_
 rintro e w6 ⟨r, rfl, hr, hr1, hr2, hdr⟩
 have hr0 : ¬ (0 ≤ r) := fun h => by have := hr.1 h; omega
 have HDR := Lib.hid hdr; clear hdr hr
 have hyw : Mg w6 bz sy k := (HY.out.drewN _).drawn HDR.out
 have hxw : Mg w6 bx sx m := (HX.out.drewN _).drawn HDR.out
 have HYW := Lib.hid hyw; clear hyw
 have HXW := Lib.hid hxw; clear hxw
 obtain ⟨C, hC⟩ : ∃ C, C = (wcells sy (nw k) (wds k)).toArray := ⟨_, rfl⟩
 have hCh : w6.heap[bz]? = some (.cells C 119 (0, 0)) := by rw [hC]; exact HYW.out.at_.heap
 have hCs : (Tryz.prog.info? 119).map (·.size) = some C.size := by rw [hC, wcells_size _ _ (wds_len k)]; exact info_wide
 have hC1 : C.all (·.oneCell') = true := by rw [hC]; exact wcells_one _ _ _
 have hZs : Tryz.zeroCells119.size = C.size := by rw [hC, wcells_size _ _ (wds_len k), zeroWide, wcells_size _ _ (wds_len 0)]
 have HC := Lib.hid hC; clear hC
 have HCH := Lib.hid hCh; clear hCh
 have HCS := Lib.hid hCs; clear hCs
 have HC1 := Lib.hid hC1; clear hC1
 have HZS := Lib.hid hZs; clear hZs
 go_wp2_with (first | (refine wpList_load_row rfl 119 _ rfl bz rfl 119 C (0, 0) _ HCH.out Tryz.underlying119 rfl HCS.out ?_) | (refine wpList_store_row rfl 119 _ _ rfl w6.heap.size C rfl rfl 119 _ (heap_alloc_last w6 _) HCS.out HZS.out HC1.out ?_; refine Hid.out ?_))
 refine Lib.hid ?_
 have h7 : Mg ((w6.alloc (.cells Tryz.zeroCells119 119)).setRow w6.heap.size C) w6.heap.size sy k := by
  rw [HC.out]; exact ⟨HYW.out.lt, Wd.setRow (heap_alloc_last w6 _) (wds_len k)⟩
 have hb7 : Below w6.heap.size w6 ((w6.alloc (.cells Tryz.zeroCells119 119)).setRow w6.heap.size C) := below_setRow' ((Below.refl _ _).alloc (Nat.le_refl _) _) (Nat.le_refl _) _
 generalize (w6.alloc (.cells Tryz.zeroCells119 119)).setRow w6.heap.size C = w7 at h7 hb7 ⊢
 have H7 := Lib.hid h7; clear h7
 have HB7 := Lib.hid hb7; clear hb7
 have hbx := HXW.out.blt
 go_wp2_with fail
 refine (carry_calls w6.heap.size bx sy sx k m (k - m) (-1) 0 w7 H7.out (HXW.out.below HB7.out) (by omega) (by omega) (by omega) (by have := HXW.out.nw; omega) (by rw [Nat.pow_zero, Nat.mul_one]; omega) (by have := H7.out.lt; omega)).mono ?_
 rintro e w8 ⟨rfl, h1, h2⟩
 have H8 := Lib.hid h1; clear h1
 have HG8 := Lib.hid h2; clear h2
 have hx8 : Mg w8 bx sx m := (HXW.out.below HB7.out).grown HG8.out (by simp; omega)
 have HX8 := Lib.hid hx8; clear hx8
 obtain ⟨D, hD⟩ : ∃ D, D = (wcells sy (nw (k - m)) (wds (k - m))).toArray := ⟨_, rfl⟩
 have hDh : w8.heap[w6.heap.size]? = some (.cells D 119 (0, 0)) := by rw [hD]; exact H8.out.at_.heap
 have hDs : (Tryz.prog.info? 119).map (·.size) = some D.size := by rw [hD, wcells_size _ _ (wds_len (k - m))]; exact info_wide
 have hD1 : D.all (·.oneCell') = true := by rw [hD]; exact wcells_one _ _ _
 have hZs : (wcells sx (nw m) (wds m)).toArray.size = D.size := by rw [hD, wcells_size _ _ (wds_len (k - m)), wcells_size _ _ (wds_len m)]
 have HD := Lib.hid hD; clear hD
 have HDH := Lib.hid hDh; clear hDh
 have HDS := Lib.hid hDs; clear hDs
 have HD1 := Lib.hid hD1; clear hD1
 have HZS2 := Lib.hid hZs; clear hZs
 go_wp2_with (first | (refine wpList_load_row rfl 119 _ rfl w6.heap.size rfl 119 D (0, 0) _ HDH.out Tryz.underlying119 rfl HDS.out ?_) | (refine wpList_store_row rfl 119 _ _ rfl bx D rfl rfl 119 _ HX8.out.at_.heap HDS.out HZS2.out HD1.out ?_; refine Hid.out ?_))
 refine Lib.hid ?_
 have h9 : Mg (w8.setRow bx D) bx sy (k - m) := by
  rw [HD.out]; exact ⟨H8.out.lt, Wd.setRow HX8.out.at_.heap (wds_len _)⟩
 have hb9 : w.grownBy (w8.setRow bx D) (some bx) := by
  refine gby_setRow ?_ D
  obtain ⟨n, hn⟩ := HDR.out
  refine gby_trans (gby_drewN (gby_drewN (gby_refl w _) nq) n) ?_
  rw [← hn]
  exact ⟨HG8.out.os.trans HB7.out.os, HG8.out.tape.trans HB7.out.tape, HG8.out.output.trans HB7.out.output, Nat.le_trans HB7.out.size HG8.out.size, fun i hi _ => (HG8.out.block i (Nat.lt_of_lt_of_le hi HB7.out.size) (by simp; omega)).trans (HB7.out.block i hi)⟩
 generalize w8.setRow bx D = w9 at h9 hb9 ⊢
 have H9 := Lib.hid h9; clear h9
 have HB9 := Lib.hid hb9; clear hb9
 go_wp2
 go_end0
 exact ⟨rfl, H9.out, HB9.out⟩
def PlusPost (w : World) (bx : Nat) (v : Int) (e : Ending) (w' : World) : Prop := e = .returned (.tuple #[]) ∧ (∃ s m, Mg w' bx s m ∧ sg s m = v) ∧ w.grownBy w' (some bx)
set_option maxRecDepth 100000 in
set_option maxHeartbeats 2000000 in
theorem plus_calls (bx bz : Nat) (sx sy : Bool) (m k : Nat) (w : World) (hx : Mg w bx sx m) (hy : Mg w bz sy k) (hne : bz ≠ bx) (hlt : m + k < BB ^ 232) :
  Calls Tryz.prog 139 #[.pointer (some ⟨bx, 0, none⟩), .pointer (some ⟨bz, 0, none⟩)] w (PlusPost w bx (sg sx m + sg sy k)) := by
 by_cases hs : sx = sy
 ·subst hs
  have c0 := hx.c0
  have d0 := hy.c0
  have hs1 : (sx == sx) = true := by simp
  have HX := Lib.hid hx; clear hx
  have HY := Lib.hid hy; clear hy
  have HL := Lib.hid hlt; clear hlt
  go_enter Tryz.func139, Tryz.ntmps139
  go_wp2
  go_quiet (fail)
  go_wp2_with fail
  refine (carry_calls bx bz sx sx m k (m + k) 1 0 _ (HX.out.drewN _) (HY.out.drewN _) hne (by omega) (by omega) (by have := HY.out.nw; omega) (by rw [Nat.pow_zero, Nat.mul_one]; omega) HL.out).mono ?_
  rintro e w8 ⟨rfl, h1, h2⟩
  have H8 := Lib.hid h1; clear h1
  have HG8 := Lib.hid h2; clear h2
  go_wp2
  go_end0
  exact ⟨rfl, ⟨sx, m + k, H8.out, by unfold sg; cases sx <;> simp <;> omega⟩, gby_trans (gby_drewN (gby_refl w _) _) HG8.out⟩
 ·have hs1 : (sx == sy) = false := by simpa using hs
  by_cases hmk : m < k
  ·refine (plus_big bx bz sx sy m k w hx hy hne hs1 hmk).mono fun e w' ⟨h1, h2, h3⟩ => ⟨h1, ⟨sy, k - m, h2, ?_⟩, h3⟩
   have hse : sx = !sy := by cases sx <;> cases sy <;> simp_all
   subst hse
   unfold sg; cases sy <;> simp <;> omega
  ·have c0 := hx.c0
   have d0 := hy.c0
   have HX := Lib.hid hx; clear hx
   have HY := Lib.hid hy; clear hy
   have HL := Lib.hid hlt; clear hlt
   go_enter Tryz.func139, Tryz.ntmps139
   go_wp2
   go_quiet (fail)
   go_wp2_with fail
   refine (beyond_calls bx bz sx sy m k _ (HX.out.drewN _) (HY.out.drewN _)).mono ?_
   rintro e w6 ⟨r, rfl, hr, hr1, hr2, hdr⟩
   have hr0 : 0 ≤ r := hr.2 (by omega)
   have HDR := Lib.hid hdr; clear hdr hr
   go_wp2_with fail
   refine (carry_calls bx bz sx sy m k (m - k) (-1) 0 _ ((HX.out.drewN _).drawn HDR.out) ((HY.out.drewN _).drawn HDR.out) hne (by omega) (by omega) (by have := HY.out.nw; omega) (by rw [Nat.pow_zero, Nat.mul_one]; omega) (by have := HL.out; omega)).mono ?_
   rintro e w8 ⟨rfl, h1, h2⟩
   have H8 := Lib.hid h1; clear h1
   have HG8 := Lib.hid h2; clear h2
   go_wp2
   go_end0
   refine ⟨rfl, ⟨sx, m - k, H8.out, ?_⟩, ?_⟩
   ·have hse : sy = !sx := by cases sx <;> cases sy <;> simp_all
    subst hse
    unfold sg; cases sx <;> simp <;> omega
   ·obtain ⟨n, hn⟩ := HDR.out
    have h1 := gby_drewN (gby_drewN (gby_refl w (some bx)) nq) n
    rw [← hn] at h1
    exact gby_trans h1 HG8.out
end Go.Proofs.YtkdpcgmnkifbbaaGreatDoor
end
section
namespace Go.Proofs.YtkdpcgmnkifbbaaGreatDoor
open Go.RowKit
theorem Wd.below {w w' : World} {b B : Nat} {s : Bool} {n : Int} {ws : List Int} (h : Wd w b s n ws) (hb : Below B w w') (hB : b < B) : Wd w' b s n ws := ⟨by rw [hb.block b hB]; exact h.heap, h.len⟩
theorem Mg.belowB {w w' : World} {b B : Nat} {s : Bool} {m : Nat} (h : Mg w b s m) (hb : Below B w w') (hB : b < B) : Mg w' b s m := ⟨h.lt, h.at_.below hb hB⟩
def QAt (w : World) (b N i Q : Nat) : Prop := ∃ (n : Nat) (ws : List Int), Wd w b false n ws ∧ (∀ j, j < 232 → ws.getD j 0 = if i ≤ j then (wd Q j : Int) else 0) ∧ (n = N ∨ (i = N ∧ n = 0))
theorem run_sliceW (W : World) (b n : Nat) (h : n ≤ 232) : (Instr.sliceAt 117 (.pointer (some ⟨b, 2, none⟩)) none (some (.int .i64 (n : Int))) none).run Tryz.prog W = .ok (.slice (some ⟨b, 2, none⟩) n 232) W := by
 have hl : Tryz.prog.arrayLen 117 = 232 := by kernel_rfl
 have he : Tryz.prog.elem 117 = 3 := by kernel_rfl
 rw [run_sliceAt_array_h W 117 ⟨b, 2, none⟩ (by rw [hl, he]; exact Tryz.underlying117) .i64 (n : Int) (by omega) (by rw [hl]; omega), hl, he]
 have hs : (sizeOf 3).run Tryz.prog W = .ok 1 W := by kernel_rfl
 rw [hs]
 simp [Result.andThen, slicedAt, Addr.add]
def shifted (R n : Nat) : List Value := ((wds R).take n).map (Value.int .i64)
theorem shifted_length (R n : Nat) (h : n ≤ 232) : (shifted R n).length = n := by simp [shifted, wds_len]; omega
theorem shift_len (R n : Nat) (h : n ≤ 231) : (shifted R n).length = Nat.min n 231 := by rw [shifted_length R n (by omega)]; exact (Nat.min_eq_left h).symm
theorem shift_one (R n : Nat) : ∀ v ∈ shifted R n, v.oneCell' = true := by
 intro v hv
 simp only [shifted, List.mem_map] at hv
 obtain ⟨x, _, rfl⟩ := hv
 rfl
theorem shift_fit (R n : Nat) (h : n ≤ 231) : 3 + (shifted R n).length ≤ (wcells false (n : Int) (wds R)).length := by
 rw [shifted_length R n (by omega)]; simp [wcells, wds_len]; omega
theorem shift_src {w : World} {b R : Nat} (h : Mg w b false R) (n : Nat) (hn : n ≤ 232) : ∀ (j : Nat) (v : Value), (shifted R n)[j]? = some v → w.cell? ((⟨b, 2, none⟩ : Addr).add j) = some v := by
 intro j v hv
 have hj : j < n := by
  rcases Nat.lt_or_ge j n with h1 | h1
  ·exact h1
  ·rw [List.getElem?_eq_none (by rw [shifted_length R n hn]; exact h1)] at hv; cases hv
 have e : (⟨b, 2, none⟩ : Addr).add j = ⟨b, 2 + j, none⟩ := by simp [Addr.add]
 rw [e, h.cw j (by omega), ← hv]
 simp [shifted, wds, hj, show j < 232 by omega]
def shiftW (R n : Nat) : List Int := (wds R).take 1 ++ ((wds R).take n ++ (wds R).drop (n + 1))
theorem shift_wd {w : World} {b R n : Nat} (h : w.heap[b]? = some (.cells (splice (wcells false (n : Int) (wds R)) 3 (shifted R n)).toArray 119 (0, 0))) (hn : n ≤ 231) : Wd w b false (n : Int) (shiftW R n) := by
 refine ⟨?_, by simp [shiftW, wds_len]; omega⟩
 rw [h]
 congr 3
 unfold splice
 rw [shifted_length R n (by omega)]
 simp [wcells, shiftW, shifted, List.map_take, List.map_drop, show 3 + n = (n + 1) + 1 + 1 by omega]
theorem shiftW_succ (R n j : Nat) (hn : nw R = n) (h : n ≤ 231) (hj : j + 1 < 232) : (shiftW R n).getD (j + 1) 0 = (wd R j : Int) := by
 unfold shiftW
 rw [List.getD, List.getElem?_append_right (by simp [wds_len])]
 have e : j + 1 - ((wds R).take 1).length = j := by simp [wds_len]
 rw [e]
 by_cases h1 : j < n
 ·rw [List.getElem?_append_left (by simp [wds_len]; omega)]
  simp [wds, h1, show j < 232 by omega]
 ·rw [List.getElem?_append_right (by simp [wds_len]; omega)]
  have e2 : j - ((wds R).take n).length = j - n := by simp [wds_len]; omega
  rw [e2, wd_zero_of_ge (by omega)]
  simp only [List.getElem?_drop]
  rw [show n + 1 + (j - n) = j + 1 by omega]
  simp [wds, hj, wd_zero_of_ge (show nw R ≤ j + 1 by omega)]
theorem wd_shift0 (R v : Nat) (h : v < 1000000000) : wd (R * BB + v) 0 = v := by
 unfold wd; simp only [Nat.pow_zero, Nat.div_one, BB_eq]; omega
theorem wd_shift (R v j : Nat) (h : v < 1000000000) : wd (R * BB + v) (j + 1) = wd R j := by
 unfold wd
 rw [Nat.pow_succ, Nat.mul_comm (BB ^ j), ← Nat.div_div_eq_div_mul, show (R * BB + v) / BB = R by rw [BB_eq]; omega]
theorem rest_lt {R k v : Nat} (h : R < k) (hk : nw k ≤ 231) (hv : v < 1000000000) : R * BB + v < BB ^ 232 := by
 have h1 : k < BB ^ 231 := Nat.lt_of_lt_of_le (lt_nw k) (Nat.pow_le_pow_right (by decide) hk)
 have h2 : (R + 1) * BB ≤ BB ^ 231 * BB := Nat.mul_le_mul_right _ (by omega)
 have h3 : BB ^ 231 * BB = BB ^ 232 := (Nat.pow_succ ..).symm
 rw [h3, Nat.add_mul, Nat.one_mul] at h2
 have h4 := BB_eq
 generalize R * BB = x at *
 generalize BB ^ 232 = y at *
 omega
theorem rest_words (R n v : Nat) (u : Int) (hn : nw R = n) (hn2 : n ≤ 231) (hv : v < 1000000000) (hu : (v : Int) = u) (j : Nat) (hj : j < 232) : ((shiftW R n).set 0 u).getD j 0 = (wd (R * BB + v) j : Int) := by
 have hl : (shiftW R n).length = 232 := by simp [shiftW, wds_len]; omega
 cases j with
 | zero => rw [List.getD, List.getElem?_set, if_pos rfl, if_pos (by omega), wd_shift0 R v hv, hu]; rfl
 | succ j =>
  rw [List.getD, List.getElem?_set, if_neg (by omega), wd_shift R v j hv]
  have := shiftW_succ R n j hn hn2 hj
  rwa [List.getD] at this
theorem rest_high (R n v : Nat) (hn : nw R = n) (hv : v < 1000000000) (j : Nat) (hj : n + 1 ≤ j) : wd (R * BB + v) j = 0 := by
 obtain ⟨l, rfl⟩ : ∃ l, j = l + 1 := ⟨j - 1, by omega⟩
 rw [wd_shift R v l hv, wd_zero_of_ge (by omega)]
theorem _root_.Go.RowKit.Below.drawn {B : Nat} {a w w' : World} (h : Below B a w) (hd : Drawn w w') : Below B a w' := by
 obtain ⟨n, rfl⟩ := hd; exact below_drewN h n
theorem digit_le {t d c k R v T : Nat} (h : t + d * k = T) (hc : c * k ≤ t) (hR : R < k) (hT : R * BB + v = T) (hv : v < 1000000000) (hk : 0 < k) : d + c ≤ 999999999 := by
 have h1 : (d + c) * k ≤ T := by rw [Nat.add_mul]; omega
 have h2 : T < k * 1000000000 := by
  have h3 : (R + 1) * BB ≤ k * BB := Nat.mul_le_mul_right _ (by omega)
  rw [Nat.add_mul, Nat.one_mul] at h3
  have h4 := BB_eq
  rw [h4] at h3 hT
  omega
 have h3 : (d + c) * k < 1000000000 * k := by rw [Nat.mul_comm 1000000000]; omega
 have := Nat.lt_of_mul_lt_mul_right h3
 omega
theorem sub_step {t c k : Nat} (h : c * k ≤ t) : ((t - c * k : Nat) : Int) = t + -(c : Int) * ((k * BB ^ 0 : Nat) : Int) := by
 rw [Int.ofNat_sub h, Nat.pow_zero, Nat.mul_one, Int.neg_mul]
 push_cast
 omega
theorem div_mod_of {t d k T : Nat} (h : t + d * k = T) (hk : t < k) : d = T / k ∧ t = T % k := by
 subst h
 constructor
 ·rw [Nat.add_mul_div_right _ _ (by omega), Nat.div_eq_of_lt hk, Nat.zero_add]
 ·rw [Nat.add_mul_mod_self_right, Nat.mod_eq_of_lt hk]
theorem rem_step {m k i R T t : Nat} (hR : m / BB ^ (i + 1) % k = R) (hT : R * BB + wd m i = T) (ht : t = T % k) : m / BB ^ i % k = t := by
 rw [div_wd m i, ht, ← hT, ← hR]
 generalize m / BB ^ (i + 1) = a
 rw [Nat.mul_comm (a % k), Nat.add_mod, Nat.mul_mod, ← Nat.add_mod]
 conv => rhs; rw [Nat.add_mod, Nat.mul_mod, Nat.mod_mod, ← Nat.mul_mod, ← Nat.add_mod]
 rw [Nat.add_mod, ← Nat.mul_mod, ← Nat.add_mod]
theorem quo_step {m k i R T d : Nat} (hk : 0 < k) (hR : m / BB ^ (i + 1) % k = R) (hT : R * BB + wd m i = T) (hd : d = T / k) : wd (m / k) i = d := by
 have hRk : R < k := by rw [← hR]; exact Nat.mod_lt _ hk
 have hTk : T < k * BB := by
  have h3 : (R + 1) * BB ≤ k * BB := Nat.mul_le_mul_right _ (by omega)
  rw [Nat.add_mul, Nat.one_mul] at h3
  have h4 := BB_eq
  have := wd_lt m i
  omega
 have hd2 : d < BB := by rw [hd]; exact (Nat.div_lt_iff_lt_mul hk).2 (by rwa [Nat.mul_comm])
 unfold wd
 rw [Nat.div_div_eq_div_mul, Nat.mul_comm k, ← Nat.div_div_eq_div_mul, div_wd m i]
 have ha := Nat.div_add_mod (m / BB ^ (i + 1)) k
 rw [hR] at ha
 generalize m / BB ^ (i + 1) / k = Q at ha
 rw [← ha]
 have e : BB * (k * Q + R) + wd m i = T + k * (BB * Q) := by
  rw [← hT, Nat.mul_add, Nat.mul_left_comm, Nat.mul_comm BB R]; omega
 rw [e, Nat.add_mul_div_left _ _ hk, ← hd, Nat.add_mul_mod_self_left, Nat.mod_eq_of_lt hd2]
theorem Mg.other {w : World} {b c : Nat} {s : Bool} {m : Nat} (h : Mg w b s m) (hc : b ≠ c) (j : Nat) (v : Value) : Mg (w.setCell ⟨c, j, none⟩ v) b s m := ⟨h.lt, h.at_.other hc j v⟩
theorem qat_start {w : World} {b m k N : Nat} (h : Mg w b false 0) (hN : nw m = N) : QAt w b N N (m / k) :=
 ⟨0, wds 0, h.at_.cast (by rw [nw_zero]), fun j hj => by
  rw [wds_get 0 j hj, wd_zero_of_ge (by rw [nw_zero]; omega)]
  split
  ·rw [wd_zero_of_ge (by have h1 := nw_mono (Nat.div_le_self m k); omega)]
  ·rfl, .inr ⟨rfl, rfl⟩⟩
theorem qat_next {w : World} {b n i N Q d : Nat} {n' : Int} {ws : List Int} (h : Wd w b false n ws) (hq : ∀ j, j < 232 → ws.getD j 0 = if i + 1 ≤ j then (wd Q j : Int) else 0) (hd : wd Q i = d) (hi : i < 232) {nn : Nat} (hn : n' = (nn : Int)) (hnn : nn = N ∨ (i = N ∧ nn = 0)) :
  QAt ((w.setCell ⟨b, 2 + i, none⟩ (.int .i64 (d : Int))).setCell ⟨b, 1, none⟩ (.int .i64 n')) b N i Q :=
 ⟨nn, ws.set i d, ((h.setw i d).setn n').cast hn, fun j hj => by
  have hl := h.len
  rw [List.getD, List.getElem?_set]
  by_cases e : i = j
  ·subst e
   rw [if_pos rfl, if_pos (by omega), if_pos (Nat.le_refl _), hd]
   rfl
  ·rw [if_neg e]
   have := hq j hj
   rw [List.getD] at this
   rw [this]
   by_cases c : i + 1 ≤ j
   ·rw [if_pos c, if_pos (by omega)]
   ·rw [if_neg c, if_neg (by omega)], hnn⟩
theorem below_two {g : Nat} {w wr w6 : World} (h : Below g w wr) (k : Below (g + 1) wr w6) (i j : Nat) (u v : Value) : Below g w ((w6.setCell ⟨g, i, none⟩ u).setCell ⟨g, j, none⟩ v) :=
 ((h.trans (k.mono (by omega))).setCell (by simp) _).setCell (by simp) _
set_option maxRecDepth 100000 in
set_option maxHeartbeats 4000000 in
theorem divided_calls (bx bz : Nat) (sx sy : Bool) (m k : Nat) (w : World) (hx : Mg w bx sx m) (hy : Mg w bz sy k) (hk : 0 < k) (hr : nw k ≤ 231) :
  Calls Tryz.prog 95 #[.pointer (some ⟨bx, 0, none⟩), .pointer (some ⟨bz, 0, none⟩)] w fun e w' => ∃ q r, e = .returned (.tuple #[.pointer (some ⟨q, 0, none⟩), .pointer (some ⟨r, 0, none⟩)]) ∧ w.heap.size ≤ q ∧ w.heap.size ≤ r ∧ q ≠ r ∧ Mg w' q false (m / k) ∧ Mg w' r false (m % k) ∧ Below w.heap.size w w' := by
 have c1 := hx.c1
 have hnm := hx.nw
 have lx := hx.blt
 have ly := hy.blt
 have HX := Lib.hid hx; clear hx
 have HY := Lib.hid hy; clear hy
 have HK := Lib.hid hk; clear hk
 have HR := Lib.hid hr; clear hr
 generalize hN : nw m = N at c1 hnm
 have HN := Lib.hid hN; clear hN
 go_enter Tryz.func95, Tryz.ntmps95
 go_wp2
 have hq0 : Mg ((w.alloc (Obj.cells Tryz.zeroCells119 119)).alloc (Obj.cells Tryz.zeroCells119 119)) w.heap.size false 0 := (Mg.fresh0 w).alloc _
 have hr0 : Mg ((w.alloc (Obj.cells Tryz.zeroCells119 119)).alloc (Obj.cells Tryz.zeroCells119 119)) (w.heap.size + 1) false 0 := by
  have := Mg.fresh0 (w.alloc (Obj.cells Tryz.zeroCells119 119))
  rwa [World.size_alloc] at this
 have hb0 : Below w.heap.size w ((w.alloc (Obj.cells Tryz.zeroCells119 119)).alloc (Obj.cells Tryz.zeroCells119 119)) := ((Below.refl _ _).alloc (Nat.le_refl _) _).alloc (by simp) _
 generalize (w.alloc (Obj.cells Tryz.zeroCells119 119)).alloc (Obj.cells Tryz.zeroCells119 119) = w1 at hq0 hr0 hb0 ⊢
 generalize hgq : w.heap.size = gq at *
 have HGQ := Lib.hid hgq; clear hgq
 have HQ0 := Lib.hid hq0; clear hq0
 have HR0 := Lib.hid hr0; clear hr0
 have HB0 := Lib.hid hb0; clear hb0
 go_loopg [8] N (fun i v wr => i ≤ N ∧ v = .int .i64 ((i : Int) - 1) ∧ Hid (Mg wr (gq + 1) false (m / BB ^ i % k)) ∧ Hid (QAt wr gq N i (m / k)) ∧ Hid (Below gq w wr))
 case atStart =>
  refine ⟨Nat.le_refl _, rfl, Lib.hid ?_, Lib.hid ?_, HB0⟩
  ·rw [Nat.div_eq_of_lt (by have := lt_nw m; rwa [HN.out] at this), Nat.zero_mod]; exact HR0.out
  ·exact qat_start HQ0.out HN.out
 case round =>
  obtain ⟨hi, rfl, HRr, HQr, HBr⟩ := hrel
  rcases Nat.eq_zero_or_pos gk with h0 | h0
  ·subst h0
   obtain ⟨nq, wsq, hwq, hqw, hnq⟩ := HQr.out
   obtain rfl : nq = N := by omega
   have HQW := Lib.hid hwq; clear hwq
   have HQV := Lib.hid hqw; clear hqw
   go_wp2_with fail
   refine (trimmed_num gq false nq (m / k) wsq _ HQW.out hnm (Nat.lt_of_le_of_lt (Nat.div_le_self _ _) HX.out.lt) (fun j hj => by rw [HQV.out j hj, if_pos (Nat.zero_le _)]) (fun j hj => wd_zero_of_ge (by have h1 := nw_mono (Nat.div_le_self m k); rw [HN.out] at h1; omega))).mono ?_
   rintro e w9 ⟨rfl, h1, h2⟩
   have H9 := Lib.hid h1; clear h1
   have HG9 := Lib.hid h2; clear h2
   go_wp2
   go_ret2
   exact ⟨gq, gq + 1, rfl, Nat.le_of_eq HGQ.out, by have := HGQ.out; omega, by omega, H9.out, by have h3 := HRr.out.grown HG9.out (by simp); rwa [Nat.pow_zero, Nat.div_one] at h3, by rw [HGQ.out]; exact below_gby HBr.out (Nat.le_refl _) (by have h4 := HBr.out.size; have h5 := HGQ.out; omega) HG9.out⟩
  ·obtain ⟨i, rfl⟩ : ∃ i, gk = i + 1 := ⟨gk - 1, by omega⟩
   have e1 : ((i + 1 : Nat) : Int) - 1 = i := by omega
   rw [e1]
   clear e1
   generalize hRe : m / BB ^ (i + 1) % k = R at HRr
   have HRE := Lib.hid hRe; clear hRe
   have hRk : R < k := by rw [← HRE.out]; exact Nat.mod_lt _ HK.out
   have HRk := Lib.hid hRk; clear hRk
   have hRn : nw R ≤ 231 := Nat.le_trans (nw_mono (Nat.le_of_lt HRk.out)) HR.out
   have cr := HRr.out.c1
   have hRw := HRr.out.at_.heap
   have hRc := HRr.out.cw
   generalize hn : nw R = n at hRn cr hRw
   have HNR := Lib.hid hn; clear hn
   have HRW := Lib.hid hRw; clear hRw
   have HRC := Lib.hid hRc; clear hRc
   have hsl := fun W : World => run_sliceW W (gq + 1) n (by omega)
   have H1 := Lib.hid (shift_len R n hRn)
   have H2 := Lib.hid (shift_src (HRr.out.drewN 1) n (by omega))
   have H3 := Lib.hid (shift_fit R n hRn)
   have H4 := Lib.hid (shift_one R n)
   go_wp2
   go_region_law (refine step_copy_splice rfl (.tmp 27) (.tmp 35) 157 157 rfl 3 Tryz.underlying157 (by kernel_rfl) _ _ _ _ _ _ rfl rfl (gq + 1) 3 _ 119 HRW.out (shifted R n) H1.out (fun _ => ⟨rfl, _, rfl, H2.out⟩) H3.out H4.out (gq + 1) wr (below_drewN (Below.refl _ _) 1) (Nat.le_refl _) ?_; intro w4 hg4 hb4)
   have hW4 : Wd w4 (gq + 1) false (n : Int) (shiftW R n) := shift_wd hg4.out (by omega)
   have HW4 := Lib.hid hW4; clear hW4
   have HB4 := Lib.hid hb4; clear hb4 hg4
   have hx4 := ((HX.out.below (by rw [HGQ.out]; exact HBr.out)).belowB HB4.out (by have := HGQ.out; omega))
   have cx := hx4.cw i (by omega)
   have hi232 : (i : Int) < 232 := by omega
   have HX4 := Lib.hid hx4; clear hx4
   have f0 := HW4.out.fz 2
   have d0 := HW4.out.cw 0 (by omega)
   have d1 := HW4.out.c1
   have f1 := HW4.out.fz 1
   have hu := wd_lt m i
   generalize hue : (wd m i : Int) = u at cx
   have HU := Lib.hid hue; clear hue
   clear hu
   go_wp2
   go_region
   go_wp2_with fail
   have hR0 : R * BB + wd m i < BB ^ 232 := by have h1 := HRk.out; have h2 := HR.out; exact rest_lt h1 h2 (wd_lt m i)
   have HR0l := Lib.hid hR0; clear hR0
   refine (trimmed_num (gq + 1) false (n + 1) (R * BB + wd m i) ((shiftW R n).set 0 u) _ (((HW4.out.setw 0 u).setn _).drew) (by omega) HR0l.out (rest_words R n (wd m i) u HNR.out hRn (wd_lt m i) HU.out) (rest_high R n (wd m i) HNR.out (wd_lt m i))).mono ?_
   rintro e w5 ⟨rfl, h1, h2⟩
   have H5 := Lib.hid h1; clear h1
   have hb5 : Below (gq + 1) wr w5 := below_gby (((HB4.out.setCell (by simp) _).setCell (by simp) _).drew) (Nat.le_refl _) (by have := HB4.out.size; have := HBr.out.size; have := HRr.out.blt; simp; omega) h2
   clear h2
   have HB5 := Lib.hid hb5; clear hb5
   have hyW : ∀ W : World, Below (gq + 1) wr W → Mg W bz sy k := fun W hW => (HY.out.below (by rw [HGQ.out]; exact HBr.out)).belowB hW (by have := HGQ.out; omega)
   have HYW := Lib.hid hyW; clear hyW
   generalize hTe : R * BB + wd m i = T at H5 HR0l
   have HT := Lib.hid hTe; clear hTe
   clear cr c1 cx hsl f0 d0 d1 f1
   go_wp2
   go_loopg [9] T (fun t v wi => ∃ d : Nat, v = .int .i64 (d : Int) ∧ d ≤ 999999999 ∧ Hid (Mg wi (gq + 1) false t) ∧ Hid (t + d * k = T) ∧ Hid (Below (gq + 1) wr wi))
   case atStart => exact ⟨0, rfl, by omega, H5, Lib.hid (by omega), HB5⟩
   case round =>
    obtain ⟨d, rfl, hd, HMt, HTd, HBi⟩ := hrel
    go_wp2_with fail
    refine (beyond_calls (gq + 1) bz false sy gk k _ HMt.out (HYW.out _ HBi.out)).mono ?_
    rintro e w6 ⟨r, rfl, hr, hr1, hr2, hdr⟩
    have HDR := Lib.hid hdr; clear hdr
    have HRS := Lib.hid hr; clear hr
    by_cases hkt : k ≤ gk
    ·have hr0 : 0 ≤ r := HRS.out.2 hkt
     go_wp2_with fail
     refine (estimate_calls (gq + 1) bz false sy gk k _ (HMt.out.drawn HDR.out) ((HYW.out _ HBi.out).drawn HDR.out) HK.out hkt).mono ?_
     rintro e w7 ⟨c, rfl, hc1, hc2, hck, hdr⟩
     have HDC := Lib.hid hdr; clear hdr
     have HCK := Lib.hid hck; clear hck
     have hc3 : (c : Int) ≤ 999999999 := by omega
     have hc4 : 1 ≤ (c : Int) := by omega
     have hdc : d + c ≤ 999999999 := digit_le HTd.out HCK.out HRk.out HT.out (wd_lt m i) HK.out
     have hlt : gk - c * k < gk := by have h1 := Nat.mul_le_mul hc1 HK.out; have h2 := HK.out; omega
     have HLT := Lib.hid hlt; clear hlt
     go_wp2_with fail
     refine (carry_calls (gq + 1) bz false sy gk k (gk - c * k) (-(c : Int)) 0 _ ((HMt.out.drawn HDR.out).drawn HDC.out) (((HYW.out _ HBi.out).drawn HDR.out).drawn HDC.out) (by have := HGQ.out; omega) (by omega) (by omega) (by have := HR.out; omega) (sub_step HCK.out) (by have := HMt.out.lt; omega)).mono ?_
     rintro e w8 ⟨rfl, h1, h2⟩
     have H8 := Lib.hid h1; clear h1
     have HG8 := Lib.hid h2; clear h2
     go_wp2
     go_roundg (gk - c * k)
     case measure => exact HLT.out
     case rel => exact ⟨d + c, by go_num, hdc, H8, Lib.hid (by have h1 := HTd.out; have h2 := HCK.out; rw [Nat.add_mul]; omega), Lib.hid (below_gby (HBi.out.drawn HDR.out |>.drawn HDC.out) (Nat.le_refl _) (by have := HMt.out.blt; have h3 := HDR.out; have h4 := HDC.out; obtain ⟨_, rfl⟩ := h3; obtain ⟨_, rfl⟩ := h4; exact Nat.le_of_lt this) HG8.out)⟩
    ·have hr0 : ¬ (0 ≤ r) := fun h => hkt (HRS.out.1 h)
     obtain ⟨nq, wsq, hwq, hqw, hnq⟩ := HQr.out
     have HQW := Lib.hid (hwq.below (HBi.out.drawn HDR.out) (by omega)); clear hwq
     have HQV := Lib.hid hqw; clear hqw
     have q1 := HQW.out.c1
     have q2 := HQW.out.fz 1
     have q3 := HQW.out.fz (2 + i)
     have q4 := HQW.out.cw i (by omega)
     have hdk : d = T / k ∧ gk = T % k := div_mod_of HTd.out (by omega)
     have HDK := Lib.hid hdk; clear hdk
     by_cases hqm : (nq : Int) < (i : Int) + 1
     ·go_wp2
      go_roundg i
      case measure => omega
      case rel => exact ⟨by omega, rfl, Lib.hid ((rem_step HRE.out HT.out HDK.out.2).symm ▸ (((HMt.out.drawn HDR.out).other (by omega) _ _).other (by omega) _ _)), Lib.hid (qat_next (nn := i + 1) HQW.out HQV.out (quo_step HK.out HRE.out HT.out HDK.out.1) (by omega) (by push_cast; rfl) (.inl (by omega))), Lib.hid (below_two HBr.out (HBi.out.drawn HDR.out) _ _ _ _)⟩
     ·go_wp2
      go_roundg i
      case measure => omega
      case rel => exact ⟨by omega, rfl, Lib.hid ((rem_step HRE.out HT.out HDK.out.2).symm ▸ (((HMt.out.drawn HDR.out).other (by omega) _ _).other (by omega) _ _)), Lib.hid (qat_next HQW.out HQV.out (quo_step HK.out HRE.out HT.out HDK.out.1) (by omega) (nn := nq) rfl (by omega)), Lib.hid (below_two HBr.out (HBi.out.drawn HDR.out) _ _ _ _)⟩
end Go.Proofs.YtkdpcgmnkifbbaaGreatDoor
end
