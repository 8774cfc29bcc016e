/- Joined by a program of this session out of its texts, with only what the last theorem needs: RO Rx1. No conditions but those stated. -/
import Derived.Test.YtkdpcgmnkifbbaaGreatDoorZC08
import Derived.Lib.LazyBuf
import Derived.Lib.Hide
import Derived.Shelf.RegionOpenPlain
set_option linter.unusedVariables false
set_option linter.unusedSimpArgs false
namespace Go.Proofs.YtkdpcgmnkifbbaaGreatDoorW.PrintLast
end Go.Proofs.YtkdpcgmnkifbbaaGreatDoorW.PrintLast
namespace Go.Proofs.YtkdpcgmnkifbbaaGreatDoorW.PrintMore
end Go.Proofs.YtkdpcgmnkifbbaaGreatDoorW.PrintMore
namespace Go.Proofs.YtkdpcgmnkifbbaaGreatDoorW.PrintWords
end Go.Proofs.YtkdpcgmnkifbbaaGreatDoorW.PrintWords
section
namespace Go.Proofs.YtkdpcgmnkifbbaaGreatDoor.R
open Go.RowKit Go.Proofs.YtkdpcgmnkifbbaaGreatDoorW.PrintWords Go.Proofs.YtkdpcgmnkifbbaaGreatDoorW.PrintLast Go.Proofs.YtkdpcgmnkifbbaaGreatDoorW.PrintMore
def metrolabref01_wide.f (a0 : ByteArray) (a1 : Int) : Option ByteArray :=
 if (a0.size : Int) ≤ a1 ∧ 0 < a0.size then if a1 ≤ 1099511627776 then some ⟨(List.replicate (a1.toNat - a0.size) 48 ++ a0.data.toList).toArray⟩ else none else none
section
variable {P : Program}
theorem wp_copy_string {ops : Array Oper} {rest : List Oper} {o : Oper} {a : Act} {w : World} {Q : Exit → Act → World → Prop}
  (hg : o.guard = none) (d x : Operand) (dT sT : TypeId) (hop : o.op = Op.call { callee := Callee.builtin Builtin.copy, args := #[d, x], argTypes := #[dT, sT] })
  (elem : TypeId) (hu : P.underlying dT = some (.slice elem)) (hz : ∀ w, (Go.sizeOf elem).run P w = .ok 1 w)
  (b off dLen dCap : Nat) (hd : a.eval d = .slice (some ⟨b, off, none⟩) dLen dCap) (t : ByteArray) (hx : a.eval x = .string t) (hle : t.size ≤ dLen)
  (hc : ∀ j, j < t.size → (w.cell? ⟨b, off + j, none⟩).isSome = true) (hf : ∀ j, j < t.size → w.frozen? ⟨b, off + j, none⟩ = false)
  (hK : wpList P ops Q rest (a.put o.dst (goInt t.size)) (w.setCells b off (t.data.toList.map fun x => Value.int .u8 (x.toNat : Int)))) : wpList P ops Q (o :: rest) a w := by
 have hw : Region.wanted o (yielded ops a.tmps) = true := by simp [Region.wanted, hg]
 rw [wpList, if_pos hw]
 left
 have h := step_copy_string (ops := ops) (E := True) (K := wpList P ops Q rest) (Q := Q) hg d x dT sT hop elem hu hz b off dLen dCap hd t hx hle hc hf hK
 rwa [if_pos hw] at h
end
def wrow (i : Nat) : Nat → Value := fun j => if j < i then .int .u8 48 else .int .u8 0
theorem wide_conv (s : ByteArray) (n : Nat) (wr : World) (b : Nat) (hs : s.size ≤ n) (h : wr.rowIs b 5 n (wrow n)) :
  (convert 161 9 (.slice (some ⟨b, 0, none⟩) n n)).run Tryz.prog (wr.setCells b (n - s.size) (List.map (fun x : UInt8 => Value.int .u8 (x.toNat : Int)) s.data.toList)) = .ok (.string ⟨(List.replicate (n - s.size) 48 ++ s.data.toList).toArray⟩) (wr.setCells b (n - s.size) (List.map (fun x : UInt8 => Value.int .u8 (x.toNat : Int)) s.data.toList)) := by
 have h2 := rowIs_setCells (List.map (fun x : UInt8 => Value.int .u8 (x.toNat : Int)) s.data.toList) (n - s.size) wr _ h
 have hl : s.data.toList.length = s.size := (Lib.size_eq s).symm
 rw [← Lib.Lz.strOfNums_map]
 refine run_convert_bytes_arg (P := Tryz.prog) _ 161 5 Tryz.underlying161 Tryz.underlying5 b 0 n n _ (by rw [List.length_map, List.length_append, List.length_replicate, hl]; omega) (fun j hj => ?_) 9 Tryz.underlying9
 rw [Nat.zero_add, h2.cell hj, Lib.Lz.getD_map]
 congr 1
 by_cases hj2 : n - s.size ≤ j
 ·rw [if_pos ⟨hj2, by rw [List.length_map, hl]; omega⟩, List.getElem?_append_right (by rw [List.length_replicate]; exact hj2), List.length_replicate, List.getElem?_map]
  have h3 : j - (n - s.size) < s.data.toList.length := by rw [hl]; omega
  rw [List.getElem?_eq_getElem h3]; rfl
 ·rw [if_neg (fun h => hj2 h.1), List.getElem?_append_left (by rw [List.length_replicate]; omega), List.getElem?_replicate, if_pos (by omega)]
  unfold wrow
  rw [if_pos hj]; rfl
set_option maxRecDepth 100000 in
set_option maxHeartbeats 4000000 in
theorem wide_walk (s : ByteArray) (n : Nat) (hs : s.size ≤ n) (h0s : 0 < s.size) (hn : n ≤ 1099511627776) (w : World) :
  Calls Tryz.prog 146 #[.string s, .int .i64 n] w fun e w' => e = .returned (.string ⟨(List.replicate (n - s.size) 48 ++ s.data.toList).toArray⟩) ∧ Below w.heap.size w w' := by
 have hmk : ∀ w : World, (Instr.makeSlice 161 (.int .i64 (n : Int)) (.int .i64 (n : Int))).run Tryz.prog w = .ok (.slice (some ⟨w.heap.size, 0, none⟩) n n) (w.alloc (.cells (madeCells #[.int .u8 0] n) 5)) := fun w =>
  run_make_row' (P := Tryz.prog) 161 5 (.int .u8 0) 1 Tryz.underlying161 info5 rfl .i64 .i64 n (by omega) (by omega) w
 have h1 : (w.alloc (.cells (madeCells #[.int .u8 0] n) 5)).rowIs w.heap.size 5 n (wrow 0) := (World.rowIs_made w (.int .u8 0) n 5).congr (fun j _ => by unfold wrow; rw [if_neg (by omega)])
 have hb1 : Below w.heap.size w (w.alloc (.cells (madeCells #[.int .u8 0] n) 5)) := (Below.refl _ _).alloc (Nat.le_refl _) _
 have HR1 := Lib.hid h1; clear h1
 have HB1 := Lib.hid hb1; clear hb1
 have HS := Lib.hid hs
 go_enter Tryz.func146, Tryz.ntmps146
 go_wp2
 generalize w.alloc (.cells (madeCells #[.int .u8 0] n) 5) = w1 at HR1 HB1 ⊢
 have hs1 : (0 : Int) ≤ (n : Int) - (s.size : Int) := by omega
 have hs2 : (n : Int) - (s.size : Int) ≤ (n : Int) := by omega
 have hs3 : wrap64 ((n : Int) - (s.size : Int)) = ((n - s.size : Nat) : Int) := by rw [IntWalk.wrap64_in _ (by omega)]; omega
 clear hmk
 go_loopg [6] n (fun g v wr => ∃ i : Nat, v = .int .i64 (i : Int) ∧ g + i = n ∧ Hid (wr.rowIs w.heap.size 5 n (wrow i)) ∧ Hid (Below w.heap.size w wr))
 case atStart => exact ⟨0, rfl, by omega, HR1, HB1⟩
 case round =>
  obtain ⟨i, rfl, hg, HR, HB⟩ := hrel
  rcases Nat.eq_zero_or_pos gk with h0 | h0
  ·have hin : i = n := by omega
   have hc : ((i : Int) < (n : Int)) = False := eq_false (by omega)
   clear hg h0
   have hs1' := eq_true hs1
   have hs2' := eq_true hs2
   have HS3 := Lib.hid hs3
   clear hs1 hs2 hs3
   have HIN := Lib.hid hin
   clear hin
   have hne : (n = n - s.size) = False := eq_false (by omega)
   have hz5 : ∀ w, (Go.sizeOf 5).run Tryz.prog w = .ok 1 w := fun w => by kernel_rfl
   have hconv := wide_conv s n wr w.heap.size hs (HIN.out ▸ HR.out)
   have hs' := HS.out
   go_wp2_with (first | ((with_reducible refine gate_dst (N := 24) rfl ?_); refine wp_copy_string rfl (.tmp 22) (.tmp 23) 161 9 rfl 5 Tryz.underlying161 hz5 w.heap.size ?off ?dl ?dc ?hd s ?hx ?hle ?hc ?hf ?_; (case hd => rfl); (case hx => rfl); (case hle => omega); (case hc => intro j hj; rw [HR.out.cell (i := n - s.size + j) (by omega)]; rfl); (case hf => intro j hj; exact HR.out.frozen _)))
   go_wp2
   go_ret
   exact ⟨rfl, below_setCells (Nat.le_refl _) _ _ _ HB.out⟩
  ·have hc : ((i : Int) < (n : Int)) = True := eq_true (by omega)
   have hi0 : (0 : Int) ≤ (i : Int) := by omega
   have hfz := HR.out.frozen i
   have hcl := HR.out.cell (i := i) (by omega)
   go_wp2
   obtain ⟨g', rfl⟩ : ∃ g', gk = g' + 1 := ⟨gk - 1, by omega⟩
   go_roundg g'
   case measure => omega
   case rel => exact ⟨i + 1, by go_num, by omega, Lib.hid ((HR.out.set i _).congr fun j _ => by
    unfold wrow
    by_cases h1 : j = i
    ·rw [if_pos h1, if_pos (by omega)]
    ·rw [if_neg h1]
     by_cases h2 : j < i
     ·rw [if_pos h2, if_pos (by omega)]
     ·rw [if_neg h2, if_neg (by omega)]), Lib.hid (HB.out.setCell (Nat.le_refl _) _)⟩
theorem metrolabref01_wide.calls (a0 : ByteArray) (a1 : Int) (r : ByteArray) (w : World) (h : metrolabref01_wide.f a0 a1 = some r) :
  Calls Tryz.prog 146 #[.string a0, .int .i64 a1] w fun e w' => e = .returned (.string r) ∧ Below w.heap.size w w' := by
 unfold metrolabref01_wide.f at h
 split at h
 ·split at h
  ·rename_i h1 h2
   obtain ⟨n, rfl⟩ : ∃ n : Nat, a1 = n := ⟨a1.toNat, by have := h1.1; omega⟩
   have h11 := h1.1
   rw [Int.toNat_natCast] at h
   cases h
   exact wide_walk a0 n (by omega) h1.2 (by omega) w
  ·cases h
 ·cases h
end Go.Proofs.YtkdpcgmnkifbbaaGreatDoor.R
end
section
namespace Go.Proofs.YtkdpcgmnkifbbaaGreatDoor.R
open Go.RowKit Go.Proofs.YtkdpcgmnkifbbaaGreatDoorW.PrintWords Go.Proofs.YtkdpcgmnkifbbaaGreatDoorW.PrintLast Go.Proofs.YtkdpcgmnkifbbaaGreatDoorW.PrintMore
attribute [local go_sem] max2_int min2_int max_two min_two max_three min_three max_four min_four
set_option linter.unusedVariables false
set_option linter.unusedSimpArgs false
def metrolabref01_size.f (a0 : ByteArray) : Option (ByteArray) := if a0.toList = ([] : List UInt8) then (some a0) else (if 0 < (a0.size : Int) then (if (bt a0 0) = 45 then (if 1 ≤ (a0.size : Int) then (some (a0.extract 1 a0.size)) else (none)) else (some a0)) else (none))
set_option maxHeartbeats 8000000 in
set_option maxRecDepth 100000 in
theorem metrolabref01_size.calls (a0 : ByteArray) (r : ByteArray) (w : World) (h : metrolabref01_size.f a0 = some r) :
  Calls Tryz.prog 90 #[.string a0] w fun e w' => e = .returned (.string r) ∧ Drawn0 w w' := by
 have H : (if a0.toList = ([] : List UInt8) then (some a0) else (if 0 < (a0.size : Int) then (if (bt a0 0) = 45 then (if 1 ≤ (a0.size : Int) then (some (a0.extract 1 a0.size)) else (none)) else (some a0)) else (none))) = some r := h
 clear h
 by_cases c2 : a0.toList = ([] : List UInt8)
 ·rw [if_pos c2] at H
  have c2b0 := beq_iff_eq.mpr c2
  have c2b1 := bne_eq_false_iff_eq.mpr c2
  clear c2
  obtain rfl := Option.some.inj H
  go_enter Tryz.func90, Tryz.ntmps90
  go_wp2
  go_ret
  exact ⟨by first | rfl | (simp; done) | (simp [*]; done), by repeat (first | exact Drawn0.refl _ | apply Drawn0.step)⟩
 ·rw [if_neg c2] at H
  have c2b0 := beq_eq_false_iff_ne.mpr c2
  have c2b1 := bne_iff_ne.mpr c2
  by_cases c3 : 0 < (a0.size : Int)
  ·rw [if_pos c3] at H
   have c3b0 : decide (0 < (a0.size : Int)) = true := decide_eq_true c3
   have c3b1 : decide (0 < a0.size) = true := decide_eq_true (by omega)
   clear c3
   by_cases c5 : (bt a0 0) = 45
   ·rw [if_pos c5] at H
    have c5b0 := beq_iff_eq.mpr c5
    have c5b1 := bne_eq_false_iff_eq.mpr c5
    clear c5
    by_cases c6 : 1 ≤ (a0.size : Int)
    ·rw [if_pos c6] at H
     have c6b0 := eq_true c6
     have c6b1 : decide (1 ≤ (a0.size : Int)) = true := decide_eq_true c6
     clear c6
     obtain rfl := Option.some.inj H
     have p4 : 0 ≤ (0 : Int) := (by omega)
     have q4 : 0 < a0.size := z12_
     have hx4 : ∀ h : 0 < a0.size, ((a0[0]'h).toNat : Int) = bt a0 0 := bt_at a0 0
     clear p4
     have qi4 : (0 < (a0.size : Int)) = True := eq_true (of_decide_eq_true z26_)
     replace q4 := eq_true q4
     go_enter Tryz.func90, Tryz.ntmps90
     go_wp2
     go_ret
     exact ⟨by first | rfl | (simp; done) | (simp [*]; done), by repeat (first | exact Drawn0.refl _ | apply Drawn0.step)⟩
    ·rw [if_neg c6] at H
     exact absurd H (by simp)
   ·rw [if_neg c5] at H
    have c5b0 := beq_eq_false_iff_ne.mpr c5
    have c5b1 := bne_iff_ne.mpr c5
    obtain rfl := Option.some.inj H
    have p4 : 0 ≤ (0 : Int) := (by omega)
    have q4 : 0 < a0.size := z12_
    have hx4 : ∀ h : 0 < a0.size, ((a0[0]'h).toNat : Int) = bt a0 0 := bt_at a0 0
    clear p4
    have qi4 : (0 < (a0.size : Int)) = True := eq_true (of_decide_eq_true z26_)
    replace q4 := eq_true q4
    go_enter Tryz.func90, Tryz.ntmps90
    go_wp2
    go_ret
    exact ⟨by first | rfl | (simp; done) | (simp [*]; done), by repeat (first | exact Drawn0.refl _ | apply Drawn0.step)⟩
  ·rw [if_neg c3] at H
   exact absurd H (by simp)
mutual
def metrolabref01_Check.j0 : Nat → ByteArray → Bool → Option (Int)
 | 0, _, _ => none
 | k + 1, x3, x23 => if x23 = true then (some 3) else (metrolabref01_Check.l0 k x3 0)
def metrolabref01_Check.l0 : Nat → ByteArray → Int → Option (Int)
 | 0, _, _ => none
 | k + 1, x3, x4 => if x4 < (x3.size : Int) then (if 0 ≤ x4 then (if (bt x3 x4) < 48 then (some 3) else (if (bt x3 x4) > 57 then (some 3) else (metrolabref01_Check.l0 k x3 (wrap64 (x4 + 1))))) else (none)) else (if (x3.size : Int) > 1024 then (some 11) else (some 0))
end
def metrolabref01_Check.f (k : Nat) (a0 : ByteArray) : Option (Int) := (metrolabref01_size.f a0).bind fun t101 => (if t101.toList = ([] : List UInt8) then (metrolabref01_Check.j0 k t101 true) else (if 0 < (t101.size : Int) then (if (bt t101 0) = 48 then (if (t101.size : Int) > 1 then (metrolabref01_Check.j0 k t101 true) else (metrolabref01_Check.j0 k t101 (decide ((a0.size : Int) > 1)))) else (metrolabref01_Check.j0 k t101 false)) else (none)))
set_option maxHeartbeats 8000000 in
set_option maxRecDepth 100000 in
theorem metrolabref01_Check.calls (k : Nat) (a0 : ByteArray) (r : Int) (w : World) (h : metrolabref01_Check.f k a0 = some r) :
  Calls Tryz.prog 51 #[.string a0] w fun e w' => e = .returned (.int .i64 r) ∧ Drawn0 w w' := by
 have H : ((metrolabref01_size.f a0).bind fun t101 => (if t101.toList = ([] : List UInt8) then (metrolabref01_Check.j0 k t101 true) else (if 0 < (t101.size : Int) then (if (bt t101 0) = 48 then (if (t101.size : Int) > 1 then (metrolabref01_Check.j0 k t101 true) else (metrolabref01_Check.j0 k t101 (decide ((a0.size : Int) > 1)))) else (metrolabref01_Check.j0 k t101 false)) else (none)))) = some r := h
 clear h
 obtain ⟨t101, A2, H⟩ := bindA H
 have HC3 := Aside0.mk H
 clear H
 go_enter Tryz.func51, Tryz.ntmps51
 go_upto_region 2 with (first | (refine gz (f := 90) rfl (some 6) rfl Tryz.func90 (metrolabref01_size.calls a0 t101 _ A2.out) ?_; rintro w' ⟨nd, rfl⟩))
 (try simp only [Act.put, List.setIfInBounds_toArray, List.set_cons_zero, List.set_cons_succ])
 go_cut [23] (fun v23 wc => ∃ (kq : Nat) (x23_2 : Bool), v23 = .bool x23_2 ∧ Aside0 (metrolabref01_Check.j0 kq t101 x23_2 = some r) ∧ Aside0 (kq ≤ k) ∧ Drawn0 w wc)
 case first =>
  have H := HC3.out
  clear HC3
  by_cases c4 : t101.toList = ([] : List UInt8)
  ·rw [if_pos c4] at H
   have c4b0 := beq_iff_eq.mpr c4
   have c4b1 := bne_eq_false_iff_eq.mpr c4
   clear c4
   (first | rw [c4b0] | (simp only [i64_w, i32_w]; rw [c4b0]) | skip)
   have H' := Aside0.mk H
   clear H
   go_wp2
   go_meet
   case rel => exact ⟨_, (true), z25_, H', ⟨by first | omega | exact Nat.le_refl _⟩, by repeat (first | exact Drawn0.refl _ | apply Drawn0.step)⟩
  ·rw [if_neg c4] at H
   have c4b0 := beq_eq_false_iff_ne.mpr c4
   have c4b1 := bne_iff_ne.mpr c4
   (first | rw [c4b0] | (simp only [i64_w, i32_w]; rw [c4b0]) | skip)
   by_cases c5 : 0 < (t101.size : Int)
   ·rw [if_pos c5] at H
    have c5b0 : decide (0 < (t101.size : Int)) = true := decide_eq_true c5
    have c5b1 : decide (0 < t101.size) = true := decide_eq_true (by omega)
    clear c5
    by_cases c7 : (bt t101 0) = 48
    ·rw [if_pos c7] at H
     have c7b0 := beq_iff_eq.mpr c7
     have c7b1 := bne_eq_false_iff_eq.mpr c7
     clear c7
     by_cases c8 : (t101.size : Int) > 1
     ·rw [if_pos c8] at H
      have c8b0 : decide (1 < (t101.size : Int)) = true := decide_eq_true c8
      have c8b1 : decide (1 < t101.size) = true := decide_eq_true (by omega)
      clear c8
      have H' := Aside0.mk H
      clear H
      have p6 : 0 ≤ (0 : Int) := (by omega)
      have q6 : 0 < t101.size := (by have : (0 : Int) < (t101.size : Int) := of_decide_eq_true z26_; omega)
      have hx6 : ∀ h : 0 < t101.size, ((t101[0]'h).toNat : Int) = bt t101 0 := bt_at t101 0
      clear p6
      have qi6 : (0 < (t101.size : Int)) = True := eq_true (of_decide_eq_true z26_)
      replace q6 := eq_true q6
      go_wp2
      go_meet
      case rel => exact ⟨_, (true), z25_, H', ⟨by first | omega | exact Nat.le_refl _⟩, by repeat (first | exact Drawn0.refl _ | apply Drawn0.step)⟩
     ·rw [if_neg c8] at H
      have c8b0 : decide (1 < (t101.size : Int)) = false := decide_eq_false c8
      have c8b1 : decide (1 < t101.size) = false := decide_eq_false (by omega)
      clear c8
      have H' := Aside0.mk H
      clear H
      have p6 : 0 ≤ (0 : Int) := (by omega)
      have q6 : 0 < t101.size := (by have : (0 : Int) < (t101.size : Int) := of_decide_eq_true z26_; omega)
      have hx6 : ∀ h : 0 < t101.size, ((t101[0]'h).toNat : Int) = bt t101 0 := bt_at t101 0
      clear p6
      have qi6 : (0 < (t101.size : Int)) = True := eq_true (of_decide_eq_true z26_)
      replace q6 := eq_true q6
      go_wp2
      go_meet
      case rel => exact ⟨_, (decide ((a0.size : Int) > 1)), z25_, H', ⟨by first | omega | exact Nat.le_refl _⟩, by repeat (first | exact Drawn0.refl _ | apply Drawn0.step)⟩
    ·rw [if_neg c7] at H
     have c7b0 := beq_eq_false_iff_ne.mpr c7
     have c7b1 := bne_iff_ne.mpr c7
     have H' := Aside0.mk H
     clear H
     have p6 : 0 ≤ (0 : Int) := (by omega)
     have q6 : 0 < t101.size := (by have : (0 : Int) < (t101.size : Int) := of_decide_eq_true z26_; omega)
     have hx6 : ∀ h : 0 < t101.size, ((t101[0]'h).toNat : Int) = bt t101 0 := bt_at t101 0
     clear p6
     have qi6 : (0 < (t101.size : Int)) = True := eq_true (of_decide_eq_true z26_)
     replace q6 := eq_true q6
     go_wp2
     go_meet
     case rel => exact ⟨_, (false), z25_, H', ⟨by first | omega | exact Nat.le_refl _⟩, by repeat (first | exact Drawn0.refl _ | apply Drawn0.step)⟩
   ·rw [if_neg c5] at H
    exact absurd H (by simp)
 case rest =>
  clear HC3
  try clear p2
  try clear c4
  try clear c4b0
  try clear c4b1
  try clear c5
  try clear c5b0
  try clear c5b1
  try clear p6
  try clear q6
  try clear hx6
  try clear qi6
  try clear c7
  try clear c7b0
  try clear c7b1
  try clear c8
  try clear c8b0
  try clear c8b1
  try clear p6
  try clear q6
  obtain ⟨kq, x23_2, rfl, HA, HJ2, ⟨mc2, rfl⟩⟩ := hcut
  cases kq with
  | zero => exact absurd HA.out (by simp [metrolabref01_Check.j0])
  | succ kj2 =>
   have H := HA.out
   clear HA
   simp only [metrolabref01_Check.j0] at H
   by_cases c9 : x23_2 = true
   ·subst c9
    rw [if_pos rfl] at H
    obtain rfl := Option.some.inj H
    go_wp2
    go_ret
    exact ⟨by first | rfl | (simp; done) | (simp [*]; done), by repeat (first | exact Drawn0.refl _ | apply Drawn0.step)⟩
   ·replace c9 := Bool.eq_false_iff.mpr c9
    subst c9
    rw [if_neg (show ¬ (false = true) by decide)] at H
    have H' := Aside0.mk H
    clear H
    go_wp2
    go_loopg [4] kj2 (fun kq v4 w' => ∃ (x4_2 : Int), v4 = .int .i64 x4_2 ∧ Aside0 (metrolabref01_Check.l0 kq t101 x4_2 = some r) ∧ Aside0 (kq ≤ kj2) ∧ Drawn0 w w')
    case atStart => exact ⟨(0), z25_, H', ⟨Nat.le_refl _⟩, by repeat (first | exact Drawn0.refl _ | apply Drawn0.step)⟩
    case round =>
     clear H'
     try clear c2
     try clear p2
     try clear c4
     try clear c4b0
     try clear c4b1
     try clear c5
     try clear c5b0
     try clear c5b1
     try clear p6
     try clear q6
     try clear hx6
     try clear qi6
     try clear c7
     try clear c7b0
     try clear c7b1
     try clear c8
     try clear c8b0
     try clear c8b1
     try clear c9
     try clear p2
     try clear p6
     try clear q6
     obtain ⟨x4_2, rfl, HA, HK2, ⟨m2, rfl⟩⟩ := hrel
     cases gk with
     | zero => exact absurd HA.out (by simp [metrolabref01_Check.l0])
     | succ k2 =>
      have H := HA.out
      clear HA
      simp only [metrolabref01_Check.l0] at H
      by_cases c10 : x4_2 < (t101.size : Int)
      ·rw [if_pos c10] at H
       have c10b0 : decide (x4_2 < (t101.size : Int)) = true := decide_eq_true c10
       clear c10
       by_cases c11 : 0 ≤ x4_2
       ·rw [if_pos c11] at H
        have c11b0 : decide (0 ≤ x4_2) = true := decide_eq_true c11
        clear c11
        by_cases c13 : (bt t101 x4_2) < 48
        ·rw [if_pos c13] at H
         have c13b0 : decide ((bt t101 x4_2) < 48) = true := decide_eq_true c13
         clear c13
         obtain rfl := Option.some.inj H
         have p12 : 0 ≤ (x4_2 : Int) := of_decide_eq_true z26_
         have q12 : x4_2 < (t101.size : Int) := of_decide_eq_true z26_
         have hx12 := bt_at t101 x4_2
         replace p12 := eq_true p12
         replace q12 := eq_true q12
         go_wp2
         go_ret
         exact ⟨by first | rfl | (simp; done) | (simp [*]; done), by repeat (first | exact Drawn0.refl _ | apply Drawn0.step)⟩
        ·rw [if_neg c13] at H
         have c13b0 : decide ((bt t101 x4_2) < 48) = false := decide_eq_false c13
         clear c13
         by_cases c15 : (bt t101 x4_2) > 57
         ·rw [if_pos c15] at H
          have c15b0 : decide (57 < (bt t101 x4_2)) = true := decide_eq_true c15
          clear c15
          obtain rfl := Option.some.inj H
          have p12 : 0 ≤ (x4_2 : Int) := of_decide_eq_true z26_
          have q12 : x4_2 < (t101.size : Int) := of_decide_eq_true z26_
          have hx12 := bt_at t101 x4_2
          replace p12 := eq_true p12
          replace q12 := eq_true q12
          have p14 : 0 ≤ (x4_2 : Int) := of_decide_eq_true z26_
          have q14 : x4_2 < (t101.size : Int) := of_decide_eq_true z26_
          have hx14 := bt_at t101 x4_2
          replace p14 := eq_true p14
          replace q14 := eq_true q14
          go_wp2
          go_ret
          exact ⟨by first | rfl | (simp; done) | (simp [*]; done), by repeat (first | exact Drawn0.refl _ | apply Drawn0.step)⟩
         ·rw [if_neg c15] at H
          have c15b0 : decide (57 < (bt t101 x4_2)) = false := decide_eq_false c15
          clear c15
          have H' := Aside0.mk H
          clear H
          have p12 : 0 ≤ (x4_2 : Int) := of_decide_eq_true z26_
          have q12 : x4_2 < (t101.size : Int) := of_decide_eq_true z26_
          have hx12 := bt_at t101 x4_2
          replace p12 := eq_true p12
          replace q12 := eq_true q12
          have p14 : 0 ≤ (x4_2 : Int) := of_decide_eq_true z26_
          have q14 : x4_2 < (t101.size : Int) := of_decide_eq_true z26_
          have hx14 := bt_at t101 x4_2
          replace p14 := eq_true p14
          replace q14 := eq_true q14
          go_wp2
          go_roundg k2
          case measure => have := HJ2.out; have := HK2.out; omega
          case rel => exact ⟨(wrap64 (x4_2 + 1)), z25_, H', ⟨by have := HJ2.out; have := HK2.out; omega⟩, by repeat (first | exact Drawn0.refl _ | apply Drawn0.step)⟩
       ·rw [if_neg c11] at H
        exact absurd H (by simp)
      ·rw [if_neg c10] at H
       have c10b0 : decide (x4_2 < (t101.size : Int)) = false := decide_eq_false c10
       clear c10
       by_cases c16 : (t101.size : Int) > 1024
       ·rw [if_pos c16] at H
        have c16b0 : decide (1024 < (t101.size : Int)) = true := decide_eq_true c16
        have c16b1 : decide (1024 < t101.size) = true := decide_eq_true (by omega)
        clear c16
        obtain rfl := Option.some.inj H
        go_wp2
        go_ret
        exact ⟨by first | rfl | (simp; done) | (simp [*]; done), by repeat (first | exact Drawn0.refl _ | apply Drawn0.step)⟩
       ·rw [if_neg c16] at H
        have c16b0 : decide (1024 < (t101.size : Int)) = false := decide_eq_false c16
        have c16b1 : decide (1024 < t101.size) = false := decide_eq_false (by omega)
        clear c16
        obtain rfl := Option.some.inj H
        go_wp2
        go_ret
        exact ⟨by first | rfl | (simp; done) | (simp [*]; done), by repeat (first | exact Drawn0.refl _ | apply Drawn0.step)⟩
def metrolabref01_Below.f (a0 : ByteArray) : Option (Bool) := if 0 < (a0.size : Int) then (some ((bt a0 0) == 45)) else (none)
set_option maxHeartbeats 8000000 in
set_option maxRecDepth 100000 in
theorem metrolabref01_Below.calls (a0 : ByteArray) (r : Bool) (w : World) (h : metrolabref01_Below.f a0 = some r) :
  Calls Tryz.prog 92 #[.string a0] w fun e w' => e = .returned (.bool r) ∧ Drawn0 w w' := by
 have H : (if 0 < (a0.size : Int) then (some ((bt a0 0) == 45)) else (none)) = some r := h
 clear h
 by_cases c2 : 0 < (a0.size : Int)
 ·rw [if_pos c2] at H
  have c2b0 : decide (0 < (a0.size : Int)) = true := decide_eq_true c2
  have c2b1 : decide (0 < a0.size) = true := decide_eq_true (by omega)
  clear c2
  obtain rfl := Option.some.inj H
  have p3 : 0 ≤ (0 : Int) := (by omega)
  have q3 : 0 < a0.size := z12_
  have hx3 : ∀ h : 0 < a0.size, ((a0[0]'h).toNat : Int) = bt a0 0 := bt_at a0 0
  clear p3
  have qi3 : (0 < (a0.size : Int)) = True := eq_true (of_decide_eq_true z26_)
  replace q3 := eq_true q3
  go_enter Tryz.func92, Tryz.ntmps92
  go_wp2
  go_ret
  exact ⟨by first | rfl | (simp; done) | (simp [*]; done), by repeat (first | exact Drawn0.refl _ | apply Drawn0.step)⟩
 ·rw [if_neg c2] at H
  exact absurd H (by simp)
def metrolabref01_signed.f (a0 : ByteArray) (a1 : Bool) : Option (ByteArray) := if a1 = true then (if a0.toList = ([48] : List UInt8) then (some a0) else (if 1 + a0.size ≤ 9223372036854775807 then (some ((⟨#[45]⟩ : ByteArray) ++ a0)) else (none))) else (some a0)
set_option maxHeartbeats 8000000 in
set_option maxRecDepth 100000 in
theorem metrolabref01_signed.calls (a0 : ByteArray) (a1 : Bool) (r : ByteArray) (w : World) (h : metrolabref01_signed.f a0 a1 = some r) :
  Calls Tryz.prog 104 #[.string a0, .bool a1] w fun e w' => e = .returned (.string r) ∧ Drawn0 w w' := by
 have H : (if a1 = true then (if a0.toList = ([48] : List UInt8) then (some a0) else (if 1 + a0.size ≤ 9223372036854775807 then (some ((⟨#[45]⟩ : ByteArray) ++ a0)) else (none))) else (some a0)) = some r := h
 clear h
 by_cases c3 : a1 = true
 ·subst c3
  rw [if_pos rfl] at H
  by_cases c4 : a0.toList = ([48] : List UInt8)
  ·rw [if_pos c4] at H
   have c4b0 := beq_iff_eq.mpr c4
   have c4b1 := bne_eq_false_iff_eq.mpr c4
   clear c4
   obtain rfl := Option.some.inj H
   go_enter Tryz.func104, Tryz.ntmps104
   go_wp2
   go_ret
   exact ⟨by first | rfl | (simp; done) | (simp [*]; done), by repeat (first | exact Drawn0.refl _ | apply Drawn0.step)⟩
  ·rw [if_neg c4] at H
   have c4b0 := beq_eq_false_iff_ne.mpr c4
   have c4b1 := bne_iff_ne.mpr c4
   by_cases c5 : 1 + a0.size ≤ 9223372036854775807
   ·rw [if_pos c5] at H
    have c5b0 := eq_true c5
    have c5b1 : decide (1 + a0.size ≤ 9223372036854775807) = true := decide_eq_true c5
    try have c5b2 : (9223372036854775807 < 1 + a0.size) = False := eq_false (Nat.not_lt.2 c5)
    obtain rfl := Option.some.inj H
    go_enter Tryz.func104, Tryz.ntmps104
    go_wp2
    go_ret
    exact ⟨by first | rfl | (simp; done) | (simp [*]; done), by repeat (first | exact Drawn0.refl _ | apply Drawn0.step)⟩
   ·rw [if_neg c5] at H
    exact absurd H (by simp)
 ·replace c3 := Bool.eq_false_iff.mpr c3
  subst c3
  rw [if_neg (show ¬ (false = true) by decide)] at H
  obtain rfl := Option.some.inj H
  go_enter Tryz.func104, Tryz.ntmps104
  go_wp2
  go_ret
  exact ⟨by first | rfl | (simp; done) | (simp [*]; done), by repeat (first | exact Drawn0.refl _ | apply Drawn0.step)⟩
def metrolabref01_Turned.f (a0 : ByteArray) : Option (ByteArray) := (metrolabref01_size.f a0).bind fun t102 => ((metrolabref01_Below.f a0).bind fun t103 => ((metrolabref01_signed.f t102 (!t103)).bind fun t104 => (some t104)))
set_option maxHeartbeats 8000000 in
set_option maxRecDepth 100000 in
theorem metrolabref01_Turned.calls (a0 : ByteArray) (r : ByteArray) (w : World) (h : metrolabref01_Turned.f a0 = some r) :
  Calls Tryz.prog 129 #[.string a0] w fun e w' => e = .returned (.string r) ∧ Drawn0 w w' := by
 have H : ((metrolabref01_size.f a0).bind fun t102 => ((metrolabref01_Below.f a0).bind fun t103 => ((metrolabref01_signed.f t102 (!t103)).bind fun t104 => (some t104)))) = some r := h
 clear h
 obtain ⟨t102, A2, H⟩ := bindA H
 obtain ⟨t103, A3, H⟩ := bindA H
 obtain ⟨t104, A4, H⟩ := bindA H
 obtain rfl := Option.some.inj H
 go_enter Tryz.func129, Tryz.ntmps129
 go_wp2_with (first | (refine gz (f := 90) rfl (some 4) rfl Tryz.func90 (metrolabref01_size.calls a0 t102 _ A2.out) ?_; rintro w' ⟨nd, rfl⟩) | (refine gz (f := 92) rfl (some 6) rfl Tryz.func92 (metrolabref01_Below.calls a0 t103 _ A3.out) ?_; rintro w' ⟨nd, rfl⟩) | (refine gz (f := 104) rfl (some 8) rfl Tryz.func104 (metrolabref01_signed.calls t102 (!t103) t104 _ A4.out) ?_; rintro w' ⟨nd, rfl⟩))
 go_ret
 exact ⟨by first | rfl | (simp; done) | (simp [*]; done), by repeat (first | exact Drawn0.refl _ | apply Drawn0.step)⟩
mutual
def metrolabref01_Of.j0 : Nat → Int → Bool → Option (ByteArray)
 | 0, _, _ => none
 | k + 1, x0, x11 => if x11 = true then (some (⟨#[45, 57, 50, 50, 51, 51, 55, 50, 48, 51, 54, 56, 53, 52, 55, 55, 53, 56, 48, 56]⟩ : ByteArray)) else (if x0 < 0 then ((metrolabref01_Of.f k (wrap64 (-x0))).bind fun t105 => ((metrolabref01_Turned.f t105).bind fun t106 => (some t106))) else (metrolabref01_Of.l0 k x0 (⟨#[]⟩ : ByteArray)))
def metrolabref01_Of.l0 : Nat → Int → ByteArray → Option (ByteArray)
 | 0, _, _ => none
 | k + 1, x0, x3 => if x0 > 9 then ((some (([(wrap64 (48 + (Int.tmod x0 10))) % 256] : List Int) : List Int)).bind fun y107 => (if (strOfNums y107).size + x3.size ≤ 9223372036854775807 then (metrolabref01_Of.l0 k (wrap64 (Int.tdiv x0 10)) ((strOfNums y107) ++ x3)) else (none))) else ((some (([(wrap64 (48 + x0)) % 256] : List Int) : List Int)).bind fun y110 => (if (strOfNums y110).size + x3.size ≤ 9223372036854775807 then (some ((strOfNums y110) ++ x3)) else (none)))
def metrolabref01_Of.f : Nat → Int → Option (ByteArray)
 | 0, _ => none
 | k + 1, a0 => if a0 = (wrap64 (-a0)) then (metrolabref01_Of.j0 k a0 (a0 != 0)) else (metrolabref01_Of.j0 k a0 false)
end
set_option maxHeartbeats 8000000 in
set_option maxRecDepth 100000 in
theorem metrolabref01_Of.calls (k : Nat) : ∀ (a0 : Int) (r : ByteArray) (w : World) (h : metrolabref01_Of.f k a0 = some r),
  Calls Tryz.prog 106 #[.int .i64 a0] w fun e w' => e = .returned (.string r) ∧ Below w.heap.size w w' := by
 induction k using Nat.strongRecOn with
 | _ k ih =>
 intro a0 r w h
 cases k with
 | zero => exact absurd h (by simp [metrolabref01_Of.f])
 | succ k =>
 simp only [metrolabref01_Of.f] at h
 have HB := Aside0.mk (Below.refl w.heap.size w)
 have H : (if a0 = (wrap64 (-a0)) then (metrolabref01_Of.j0 k a0 (a0 != 0)) else (metrolabref01_Of.j0 k a0 false)) = some r := h
 clear h
 have HC2 := Aside0.mk H
 clear H
 go_enter Tryz.func106, Tryz.ntmps106
 go_upto_region 1 with (fail)
 go_cut [11] (fun v11 wc => ∃ (kq : Nat) (x11_1 : Bool), v11 = .bool x11_1 ∧ Aside0 (metrolabref01_Of.j0 kq a0 x11_1 = some r) ∧ Aside0 (kq ≤ k) ∧ Aside0 (Below w.heap.size w wc))
 case first =>
  have H := HC2.out
  clear HC2
  by_cases c3 : a0 = (wrap64 (-a0))
  ·rw [if_pos c3] at H
   have c3b0 := beq_iff_eq.mpr c3
   have c3b1 := bne_eq_false_iff_eq.mpr c3
   clear c3
   (first | rw [c3b0] | (simp only [i64_w, i32_w]; rw [c3b0]) | skip)
   have H' := Aside0.mk H
   clear H
   go_wp2
   go_meet
   case rel => exact ⟨_, ((a0 != 0)), z25_, H', ⟨by first | omega | exact Nat.le_refl _⟩, ⟨by repeat (first | (with_reducible first | exact HB.out | apply below_alloc | apply pw_below_drewN | apply below_drew1) | exact HB.out)⟩⟩
  ·rw [if_neg c3] at H
   have c3b0 := beq_eq_false_iff_ne.mpr c3
   have c3b1 := bne_iff_ne.mpr c3
   (first | rw [c3b0] | (simp only [i64_w, i32_w]; rw [c3b0]) | skip)
   have H' := Aside0.mk H
   clear H
   go_wp2
   go_meet
   case rel => exact ⟨_, (false), z25_, H', ⟨by first | omega | exact Nat.le_refl _⟩, ⟨by repeat (first | (with_reducible first | exact HB.out | apply below_alloc | apply pw_below_drewN | apply below_drew1) | exact HB.out)⟩⟩
 case rest =>
  clear HC2
  try clear c1
  try clear p2
  try clear c3
  try clear c3b0
  try clear c3b1
  obtain ⟨kq, x11_1, rfl, HA, HJ1, HB⟩ := hcut
  cases kq with
  | zero => exact absurd HA.out (by simp [metrolabref01_Of.j0])
  | succ kj1 =>
   have H := HA.out
   clear HA
   simp only [metrolabref01_Of.j0] at H
   by_cases c4 : x11_1 = true
   ·subst c4
    rw [if_pos rfl] at H
    obtain rfl := Option.some.inj H
    go_wp2
    go_ret
    exact ⟨z24_, z10_⟩
   ·replace c4 := Bool.eq_false_iff.mpr c4
    subst c4
    rw [if_neg (show ¬ (false = true) by decide)] at H
    by_cases c5 : a0 < 0
    ·rw [if_pos c5] at H
     have c5b0 : decide (a0 < 0) = true := decide_eq_true c5
     clear c5
     obtain ⟨t105, A6, H⟩ := bindA H
     obtain ⟨t106, A7, H⟩ := bindA H
     obtain rfl := Option.some.inj H
     go_wp2_with (first | ((with_reducible refine gate_callee (f := 106) rfl ?_); refine goesL_ (some 16) rfl rfl Tryz.func106 (by kernel_rfl) rfl #[.int .i64 (wrap64 (-a0))] rfl z9_ ?_; (with_reducible refine (ih kj1 (by have := HJ1.out; omega) (wrap64 (-a0)) t105 _ A6.out).mono ?_); rintro e w8 ⟨rfl, hb⟩; refine ⟨_, rfl, ?_⟩; replace HB := Aside0.mk (below_step z10_ hb); clear hb) | (refine gz (f := 129) rfl (some 17) rfl Tryz.func129 (metrolabref01_Turned.calls t105 t106 _ A7.out) ?_; rintro w' ⟨nd, rfl⟩))
     go_ret
     exact ⟨z24_, z10_⟩
    ·rw [if_neg c5] at H
     have c5b0 : decide (a0 < 0) = false := decide_eq_false c5
     clear c5
     have H' := Aside0.mk H
     clear H
     go_wp2
     go_loopg [0, 3] kj1 (fun kq v0 v3 w' => ∃ (x0_2 : Int) (x3_2 : ByteArray), v0 = .int .i64 x0_2 ∧ v3 = .string x3_2 ∧ Aside0 (metrolabref01_Of.l0 kq x0_2 x3_2 = some r) ∧ Aside0 (kq ≤ kj1) ∧ Aside0 (Below w.heap.size w w'))
     case atStart => exact ⟨(a0), ((⟨#[]⟩ : ByteArray)), z25_, z25_, H', ⟨Nat.le_refl _⟩, ⟨by repeat (first | (with_reducible first | exact HB.out | apply below_alloc | apply pw_below_drewN | apply below_drew1) | exact HB.out)⟩⟩
     case round =>
      clear H'
      try clear c1
      try clear p2
      try clear c3
      try clear c3b0
      try clear c3b1
      try clear c4
      try clear c5
      try clear c5b0
      try clear p6
      try clear p2
      obtain ⟨x0_2, x3_2, rfl, rfl, HA, HK2, HB⟩ := hrel
      cases gk with
      | zero => exact absurd HA.out (by simp [metrolabref01_Of.l0])
      | succ k2 =>
       have H := HA.out
       clear HA
       simp only [metrolabref01_Of.l0] at H
       by_cases c9 : x0_2 > 9
       ·rw [if_pos c9] at H
        have c9b0 : decide (9 < x0_2) = true := decide_eq_true c9
        clear c9
        obtain ⟨y107, hy107⟩ : ∃ y_ : List Int, y_ = (([(wrap64 (48 + (Int.tmod x0_2 10))) % 256] : List Int)) := ⟨_, rfl⟩
        replace H : (if (strOfNums y107).size + x3_2.size ≤ 9223372036854775807 then (metrolabref01_Of.l0 k2 (wrap64 (Int.tdiv x0_2 10)) ((strOfNums y107) ++ x3_2)) else (none)) = some r := by first | (rw [hy107]; with_reducible exact H) | (have H2_ := (Option.bind_some _ _).symm.trans H; rw [hy107]; with_reducible exact H2_) | (have H2_ := (Option.bind_some _ _).symm.trans H; with_reducible exact H2_) | with_reducible exact H | (rw [hy107]; exact H) | exact H
        have Ny107 := Aside0.mk hy107
        clear hy107
        by_cases c10 : (strOfNums y107).size + x3_2.size ≤ 9223372036854775807
        ·rw [if_pos c10] at H
         have c10b0 := eq_true c10
         have c10b1 : decide ((strOfNums y107).size + x3_2.size ≤ 9223372036854775807) = true := decide_eq_true c10
         try have c10b2 : (9223372036854775807 < (strOfNums y107).size + x3_2.size) = False := eq_false (Nat.not_lt.2 c10)
         have H' := Aside0.mk H
         clear H
         go_wp2_with (first | ((with_reducible refine gate_dst (N := 24) rfl ?_); refine Kd.R_lit (Kd.int .u8) _ 5 ?hg (N := 24) ?hd (xs := ([(wrap64 (48 + (Int.tmod x0_2 10))) % 256] : List Int)) (inner := [.int .u8 ((wrap64 (48 + (Int.tmod x0_2 10))) % 256)]) (ok := fun _ => True) (okp := fun _ => True) ?hr ?hp (fun _ hk => hk) trivial (Below.refl _ _) (Nat.le_refl _) (by simp) ?_; (case hd => rfl); (case hg => rfl); (case hr => first | (go_simp; done) | (go_simp; rfl)); (case hp => exact (Reps.one (show Kd.M (Kd.int .u8) _ _ _ ((wrap64 (48 + (Int.tmod x0_2 10))) % 256) [.int .u8 ((wrap64 (48 + (Int.tmod x0_2 10))) % 256)] from rfl) (Reps.none _ _))); intro v108 w11 ho12 hb hg_ hnew_; clear hg_ hnew_; (first | rw [← Ny107.out] at ho12 | (simp only [Int.reduceToNat] at ho12; rw [← Ny107.out] at ho12)); have n0_ := Aside0.mk (Kd.R_lower ho12 (below_size z10_)); have n1_ := Aside0.mk (below_step z10_ hb); clear HB; have HO109 := n0_; have HB := n1_; clear n0_ n1_; clear hb ho12; have hcv13 := own_string (P := Tryz.prog) Tryz.underlying161 Tryz.underlying5 Tryz.underlying9 (Kd.own_of_R HO109.out)))
         go_roundg k2
         case measure => have := HJ1.out; have := HK2.out; omega
         case rel => exact ⟨(wrap64 (Int.tdiv x0_2 10)), ((strOfNums y107) ++ x3_2), z25_, z25_, H', ⟨by have := HJ1.out; have := HK2.out; omega⟩, ⟨by repeat (first | (with_reducible first | exact HB.out | apply below_alloc | apply pw_below_drewN | apply below_drew1) | exact HB.out)⟩⟩
        ·rw [if_neg c10] at H
         exact absurd H (by simp)
       ·rw [if_neg c9] at H
        have c9b0 : decide (9 < x0_2) = false := decide_eq_false c9
        clear c9
        obtain ⟨y110, hy110⟩ : ∃ y_ : List Int, y_ = (([(wrap64 (48 + x0_2)) % 256] : List Int)) := ⟨_, rfl⟩
        replace H : (if (strOfNums y110).size + x3_2.size ≤ 9223372036854775807 then (some ((strOfNums y110) ++ x3_2)) else (none)) = some r := by first | (rw [hy110]; with_reducible exact H) | (have H2_ := (Option.bind_some _ _).symm.trans H; rw [hy110]; with_reducible exact H2_) | (have H2_ := (Option.bind_some _ _).symm.trans H; with_reducible exact H2_) | with_reducible exact H | (rw [hy110]; exact H) | exact H
        have Ny110 := Aside0.mk hy110
        clear hy110
        by_cases c14 : (strOfNums y110).size + x3_2.size ≤ 9223372036854775807
        ·rw [if_pos c14] at H
         have c14b0 := eq_true c14
         have c14b1 : decide ((strOfNums y110).size + x3_2.size ≤ 9223372036854775807) = true := decide_eq_true c14
         try have c14b2 : (9223372036854775807 < (strOfNums y110).size + x3_2.size) = False := eq_false (Nat.not_lt.2 c14)
         obtain rfl := Option.some.inj H
         go_wp2_with (first | ((with_reducible refine gate_dst (N := 33) rfl ?_); refine Kd.R_lit (Kd.int .u8) _ 5 ?hg (N := 33) ?hd (xs := ([(wrap64 (48 + x0_2)) % 256] : List Int)) (inner := [.int .u8 ((wrap64 (48 + x0_2)) % 256)]) (ok := fun _ => True) (okp := fun _ => True) ?hr ?hp (fun _ hk => hk) trivial (Below.refl _ _) (Nat.le_refl _) (by simp) ?_; (case hd => rfl); (case hg => rfl); (case hr => first | (go_simp; done) | (go_simp; rfl)); (case hp => exact (Reps.one (show Kd.M (Kd.int .u8) _ _ _ ((wrap64 (48 + x0_2)) % 256) [.int .u8 ((wrap64 (48 + x0_2)) % 256)] from rfl) (Reps.none _ _))); intro v111 w15 ho16 hb hg_ hnew_; clear hg_ hnew_; (first | rw [← Ny110.out] at ho16 | (simp only [Int.reduceToNat] at ho16; rw [← Ny110.out] at ho16)); have n0_ := Aside0.mk (Kd.R_lower ho16 (below_size z10_)); have n1_ := Aside0.mk (below_step z10_ hb); clear HB; have HO112 := n0_; have HB := n1_; clear n0_ n1_; clear hb ho16; have hcv17 := own_string (P := Tryz.prog) Tryz.underlying161 Tryz.underlying5 Tryz.underlying9 (Kd.own_of_R HO112.out)))
         go_ret
         exact ⟨z24_, z10_⟩
        ·rw [if_neg c14] at H
         exact absurd H (by simp)
def metrolabref01_number.l0 : Nat → ByteArray → Int → ByteArray → Int → Option (Int)
 | 0, _, _, _, _ => none
 | k + 1, x0, x3, x4, x5 => if x5 < (x4.size : Int) then (if 0 ≤ x5 then (metrolabref01_number.l0 k x0 (wrap64 ((wrap64 (10 * x3)) + (((bt x4 x5) - 48) % 256))) x4 (wrap64 (x5 + 1))) else (none)) else ((metrolabref01_Below.f x0).bind fun t114 => (if t114 = true then (some (wrap64 (-x3))) else (some x3)))
def metrolabref01_number.f (k : Nat) (a0 : ByteArray) : Option (Int) := (metrolabref01_size.f a0).bind fun t113 => (metrolabref01_number.l0 k a0 0 t113 0)
set_option maxHeartbeats 8000000 in
set_option maxRecDepth 100000 in
theorem metrolabref01_number.calls (k : Nat) (a0 : ByteArray) (r : Int) (w : World) (h : metrolabref01_number.f k a0 = some r) :
  Calls Tryz.prog 140 #[.string a0] w fun e w' => e = .returned (.int .i64 r) ∧ Drawn0 w w' := by
 have H : ((metrolabref01_size.f a0).bind fun t113 => (metrolabref01_number.l0 k a0 0 t113 0)) = some r := h
 clear h
 obtain ⟨t113, A2, H⟩ := bindA H
 have H' := Aside0.mk H
 clear H
 go_enter Tryz.func140, Tryz.ntmps140
 go_wp2_with (first | (refine gz (f := 90) rfl (some 7) rfl Tryz.func90 (metrolabref01_size.calls a0 t113 _ A2.out) ?_; rintro w' ⟨nd, rfl⟩))
 go_loopg [3, 5] k (fun kq v3 v5 w' => ∃ (x3_1 : Int) (x5_1 : Int), v3 = .int .i64 x3_1 ∧ v5 = .int .i64 x5_1 ∧ Aside0 (metrolabref01_number.l0 kq a0 x3_1 t113 x5_1 = some r) ∧ Aside0 (kq ≤ k) ∧ Drawn0 w w')
 case atStart => exact ⟨(0), (0), z25_, z25_, H', ⟨Nat.le_refl _⟩, by repeat (first | exact Drawn0.refl _ | apply Drawn0.step)⟩
 case round =>
  clear H'
  try clear c1
  try clear p2
  obtain ⟨x3_1, x5_1, rfl, rfl, HA, HK1, ⟨m1, rfl⟩⟩ := hrel
  cases gk with
  | zero => exact absurd HA.out (by simp [metrolabref01_number.l0])
  | succ k1 =>
   have H := HA.out
   clear HA
   simp only [metrolabref01_number.l0] at H
   by_cases c3 : x5_1 < (t113.size : Int)
   ·rw [if_pos c3] at H
    have c3b0 : decide (x5_1 < (t113.size : Int)) = true := decide_eq_true c3
    clear c3
    by_cases c4 : 0 ≤ x5_1
    ·rw [if_pos c4] at H
     have c4b0 : decide (0 ≤ x5_1) = true := decide_eq_true c4
     clear c4
     have H' := Aside0.mk H
     clear H
     have p5 : 0 ≤ (x5_1 : Int) := of_decide_eq_true z26_
     have q5 : x5_1 < (t113.size : Int) := of_decide_eq_true z26_
     have hx5 := bt_at t113 x5_1
     replace p5 := eq_true p5
     replace q5 := eq_true q5
     go_wp2
     go_roundg k1
     case measure => have := HK1.out; omega
     case rel => exact ⟨(wrap64 ((wrap64 (10 * x3_1)) + (((bt t113 x5_1) - 48) % 256))), (wrap64 (x5_1 + 1)), z25_, z25_, H', ⟨by have := HK1.out; omega⟩, by repeat (first | exact Drawn0.refl _ | apply Drawn0.step)⟩
    ·rw [if_neg c4] at H
     exact absurd H (by simp)
   ·rw [if_neg c3] at H
    have c3b0 : decide (x5_1 < (t113.size : Int)) = false := decide_eq_false c3
    clear c3
    obtain ⟨t114, A6, H⟩ := bindA H
    by_cases c7 : t114 = true
    ·subst c7
     rw [if_pos rfl] at H
     obtain rfl := Option.some.inj H
     go_wp2_with (first | (refine gz (f := 92) rfl (some 23) rfl Tryz.func92 (metrolabref01_Below.calls a0 true _ A6.out) ?_; rintro w' ⟨nd, rfl⟩))
     go_ret
     exact ⟨by first | rfl | (simp; done) | (simp [*]; done), by repeat (first | exact Drawn0.refl _ | apply Drawn0.step)⟩
    ·replace c7 := Bool.eq_false_iff.mpr c7
     subst c7
     rw [if_neg (show ¬ (false = true) by decide)] at H
     obtain rfl := Option.some.inj H
     go_wp2_with (first | (refine gz (f := 92) rfl (some 23) rfl Tryz.func92 (metrolabref01_Below.calls a0 false _ A6.out) ?_; rintro w' ⟨nd, rfl⟩))
     go_ret
     exact ⟨by first | rfl | (simp; done) | (simp [*]; done), by repeat (first | exact Drawn0.refl _ | apply Drawn0.step)⟩
end Go.Proofs.YtkdpcgmnkifbbaaGreatDoor.R
end
