/- Joined by a program of this session out of its texts, with only what the last theorem needs: RO Rx1 Rx2. No conditions but those stated. -/
import Derived.Test.YtkdpcgmnkifbbaaGreatDoorZM07
import Derived.Lib.LazyBuf
import Derived.Lib.Hide
import Derived.Shelf.RegionOpenPlain
set_option linter.unusedVariables false
set_option linter.unusedSimpArgs false
namespace Go.Proofs.YtkdpcgmnkifbbaaGreatDoorW.PrintLast
end Go.Proofs.YtkdpcgmnkifbbaaGreatDoorW.PrintLast
namespace Go.Proofs.YtkdpcgmnkifbbaaGreatDoorW.PrintMore
end Go.Proofs.YtkdpcgmnkifbbaaGreatDoorW.PrintMore
namespace Go.Proofs.YtkdpcgmnkifbbaaGreatDoorW.PrintWords
end Go.Proofs.YtkdpcgmnkifbbaaGreatDoorW.PrintWords
section
namespace Go.Proofs.YtkdpcgmnkifbbaaGreatDoor.R
open Go.RowKit Go.Proofs.YtkdpcgmnkifbbaaGreatDoorW.PrintWords Go.Proofs.YtkdpcgmnkifbbaaGreatDoorW.PrintLast Go.Proofs.YtkdpcgmnkifbbaaGreatDoorW.PrintMore
def metrolabref01_wide.f (a0 : ByteArray) (a1 : Int) : Option ByteArray :=
 if (a0.size : Int) ≤ a1 ∧ 0 < a0.size then if a1 ≤ 1099511627776 then some ⟨(List.replicate (a1.toNat - a0.size) 48 ++ a0.data.toList).toArray⟩ else none else none
section
variable {P : Program}
theorem wp_copy_string {ops : Array Oper} {rest : List Oper} {o : Oper} {a : Act} {w : World} {Q : Exit → Act → World → Prop}
  (hg : o.guard = none) (d x : Operand) (dT sT : TypeId) (hop : o.op = Op.call { callee := Callee.builtin Builtin.copy, args := #[d, x], argTypes := #[dT, sT] })
  (elem : TypeId) (hu : P.underlying dT = some (.slice elem)) (hz : ∀ w, (Go.sizeOf elem).run P w = .ok 1 w)
  (b off dLen dCap : Nat) (hd : a.eval d = .slice (some ⟨b, off, none⟩) dLen dCap) (t : ByteArray) (hx : a.eval x = .string t) (hle : t.size ≤ dLen)
  (hc : ∀ j, j < t.size → (w.cell? ⟨b, off + j, none⟩).isSome = true) (hf : ∀ j, j < t.size → w.frozen? ⟨b, off + j, none⟩ = false)
  (hK : wpList P ops Q rest (a.put o.dst (goInt t.size)) (w.setCells b off (t.data.toList.map fun x => Value.int .u8 (x.toNat : Int)))) : wpList P ops Q (o :: rest) a w := by
 have hw : Region.wanted o (yielded ops a.tmps) = true := by simp [Region.wanted, hg]
 rw [wpList, if_pos hw]
 left
 have h := step_copy_string (ops := ops) (E := True) (K := wpList P ops Q rest) (Q := Q) hg d x dT sT hop elem hu hz b off dLen dCap hd t hx hle hc hf hK
 rwa [if_pos hw] at h
end
def wrow (i : Nat) : Nat → Value := fun j => if j < i then .int .u8 48 else .int .u8 0
theorem wide_conv (s : ByteArray) (n : Nat) (wr : World) (b : Nat) (hs : s.size ≤ n) (h : wr.rowIs b 5 n (wrow n)) :
  (convert 161 9 (.slice (some ⟨b, 0, none⟩) n n)).run Tryz.prog (wr.setCells b (n - s.size) (List.map (fun x : UInt8 => Value.int .u8 (x.toNat : Int)) s.data.toList)) = .ok (.string ⟨(List.replicate (n - s.size) 48 ++ s.data.toList).toArray⟩) (wr.setCells b (n - s.size) (List.map (fun x : UInt8 => Value.int .u8 (x.toNat : Int)) s.data.toList)) := by
 have h2 := rowIs_setCells (List.map (fun x : UInt8 => Value.int .u8 (x.toNat : Int)) s.data.toList) (n - s.size) wr _ h
 have hl : s.data.toList.length = s.size := (Lib.size_eq s).symm
 rw [← Lib.Lz.strOfNums_map]
 refine run_convert_bytes_arg (P := Tryz.prog) _ 161 5 Tryz.underlying161 Tryz.underlying5 b 0 n n _ (by rw [List.length_map, List.length_append, List.length_replicate, hl]; omega) (fun j hj => ?_) 9 Tryz.underlying9
 rw [Nat.zero_add, h2.cell hj, Lib.Lz.getD_map]
 congr 1
 by_cases hj2 : n - s.size ≤ j
 ·rw [if_pos ⟨hj2, by rw [List.length_map, hl]; omega⟩, List.getElem?_append_right (by rw [List.length_replicate]; exact hj2), List.length_replicate, List.getElem?_map]
  have h3 : j - (n - s.size) < s.data.toList.length := by rw [hl]; omega
  rw [List.getElem?_eq_getElem h3]; rfl
 ·rw [if_neg (fun h => hj2 h.1), List.getElem?_append_left (by rw [List.length_replicate]; omega), List.getElem?_replicate, if_pos (by omega)]
  unfold wrow
  rw [if_pos hj]; rfl
set_option maxRecDepth 100000 in
set_option maxHeartbeats 4000000 in
theorem wide_walk (s : ByteArray) (n : Nat) (hs : s.size ≤ n) (h0s : 0 < s.size) (hn : n ≤ 1099511627776) (w : World) :
  Calls Tryz.prog 146 #[.string s, .int .i64 n] w fun e w' => e = .returned (.string ⟨(List.replicate (n - s.size) 48 ++ s.data.toList).toArray⟩) ∧ Below w.heap.size w w' := by
 have hmk : ∀ w : World, (Instr.makeSlice 161 (.int .i64 (n : Int)) (.int .i64 (n : Int))).run Tryz.prog w = .ok (.slice (some ⟨w.heap.size, 0, none⟩) n n) (w.alloc (.cells (madeCells #[.int .u8 0] n) 5)) := fun w =>
  run_make_row' (P := Tryz.prog) 161 5 (.int .u8 0) 1 Tryz.underlying161 info5 rfl .i64 .i64 n (by omega) (by omega) w
 have h1 : (w.alloc (.cells (madeCells #[.int .u8 0] n) 5)).rowIs w.heap.size 5 n (wrow 0) := (World.rowIs_made w (.int .u8 0) n 5).congr (fun j _ => by unfold wrow; rw [if_neg (by omega)])
 have hb1 : Below w.heap.size w (w.alloc (.cells (madeCells #[.int .u8 0] n) 5)) := (Below.refl _ _).alloc (Nat.le_refl _) _
 have HR1 := Lib.hid h1; clear h1
 have HB1 := Lib.hid hb1; clear hb1
 have HS := Lib.hid hs
 go_enter Tryz.func146, Tryz.ntmps146
 go_wp2
 generalize w.alloc (.cells (madeCells #[.int .u8 0] n) 5) = w1 at HR1 HB1 ⊢
 have hs1 : (0 : Int) ≤ (n : Int) - (s.size : Int) := by omega
 have hs2 : (n : Int) - (s.size : Int) ≤ (n : Int) := by omega
 have hs3 : wrap64 ((n : Int) - (s.size : Int)) = ((n - s.size : Nat) : Int) := by rw [IntWalk.wrap64_in _ (by omega)]; omega
 clear hmk
 go_loopg [6] n (fun g v wr => ∃ i : Nat, v = .int .i64 (i : Int) ∧ g + i = n ∧ Hid (wr.rowIs w.heap.size 5 n (wrow i)) ∧ Hid (Below w.heap.size w wr))
 case atStart => exact ⟨0, rfl, by omega, HR1, HB1⟩
 case round =>
  obtain ⟨i, rfl, hg, HR, HB⟩ := hrel
  rcases Nat.eq_zero_or_pos gk with h0 | h0
  ·have hin : i = n := by omega
   have hc : ((i : Int) < (n : Int)) = False := eq_false (by omega)
   clear hg h0
   have hs1' := eq_true hs1
   have hs2' := eq_true hs2
   have HS3 := Lib.hid hs3
   clear hs1 hs2 hs3
   have HIN := Lib.hid hin
   clear hin
   have hne : (n = n - s.size) = False := eq_false (by omega)
   have hz5 : ∀ w, (Go.sizeOf 5).run Tryz.prog w = .ok 1 w := fun w => by kernel_rfl
   have hconv := wide_conv s n wr w.heap.size hs (HIN.out ▸ HR.out)
   have hs' := HS.out
   go_wp2_with (first | ((with_reducible refine gate_dst (N := 24) rfl ?_); refine wp_copy_string rfl (.tmp 22) (.tmp 23) 161 9 rfl 5 Tryz.underlying161 hz5 w.heap.size ?off ?dl ?dc ?hd s ?hx ?hle ?hc ?hf ?_; (case hd => rfl); (case hx => rfl); (case hle => omega); (case hc => intro j hj; rw [HR.out.cell (i := n - s.size + j) (by omega)]; rfl); (case hf => intro j hj; exact HR.out.frozen _)))
   go_wp2
   go_ret
   exact ⟨rfl, below_setCells (Nat.le_refl _) _ _ _ HB.out⟩
  ·have hc : ((i : Int) < (n : Int)) = True := eq_true (by omega)
   have hi0 : (0 : Int) ≤ (i : Int) := by omega
   have hfz := HR.out.frozen i
   have hcl := HR.out.cell (i := i) (by omega)
   go_wp2
   obtain ⟨g', rfl⟩ : ∃ g', gk = g' + 1 := ⟨gk - 1, by omega⟩
   go_roundg g'
   case measure => omega
   case rel => exact ⟨i + 1, by go_num, by omega, Lib.hid ((HR.out.set i _).congr fun j _ => by
    unfold wrow
    by_cases h1 : j = i
    ·rw [if_pos h1, if_pos (by omega)]
    ·rw [if_neg h1]
     by_cases h2 : j < i
     ·rw [if_pos h2, if_pos (by omega)]
     ·rw [if_neg h2, if_neg (by omega)]), Lib.hid (HB.out.setCell (Nat.le_refl _) _)⟩
theorem metrolabref01_wide.calls (a0 : ByteArray) (a1 : Int) (r : ByteArray) (w : World) (h : metrolabref01_wide.f a0 a1 = some r) :
  Calls Tryz.prog 146 #[.string a0, .int .i64 a1] w fun e w' => e = .returned (.string r) ∧ Below w.heap.size w w' := by
 unfold metrolabref01_wide.f at h
 split at h
 ·split at h
  ·rename_i h1 h2
   obtain ⟨n, rfl⟩ : ∃ n : Nat, a1 = n := ⟨a1.toNat, by have := h1.1; omega⟩
   have h11 := h1.1
   rw [Int.toNat_natCast] at h
   cases h
   exact wide_walk a0 n (by omega) h1.2 (by omega) w
  ·cases h
 ·cases h
end Go.Proofs.YtkdpcgmnkifbbaaGreatDoor.R
end
section
namespace Go.Proofs.YtkdpcgmnkifbbaaGreatDoor.R
open Go.RowKit Go.Proofs.YtkdpcgmnkifbbaaGreatDoorW.PrintWords Go.Proofs.YtkdpcgmnkifbbaaGreatDoorW.PrintLast Go.Proofs.YtkdpcgmnkifbbaaGreatDoorW.PrintMore
attribute [local go_sem] max2_int min2_int max_two min_two max_three min_three max_four min_four
set_option linter.unusedVariables false
set_option linter.unusedSimpArgs false
def metrolabref01_size.f (a0 : ByteArray) : Option (ByteArray) := if a0.toList = ([] : List UInt8) then (some a0) else (if 0 < (a0.size : Int) then (if (bt a0 0) = 45 then (if 1 ≤ (a0.size : Int) then (some (a0.extract 1 a0.size)) else (none)) else (some a0)) else (none))
set_option maxHeartbeats 8000000 in
set_option maxRecDepth 100000 in
theorem metrolabref01_size.calls (a0 : ByteArray) (r : ByteArray) (w : World) (h : metrolabref01_size.f a0 = some r) :
  Calls Tryz.prog 90 #[.string a0] w fun e w' => e = .returned (.string r) ∧ Drawn0 w w' := by
 have H : (if a0.toList = ([] : List UInt8) then (some a0) else (if 0 < (a0.size : Int) then (if (bt a0 0) = 45 then (if 1 ≤ (a0.size : Int) then (some (a0.extract 1 a0.size)) else (none)) else (some a0)) else (none))) = some r := h
 clear h
 by_cases c2 : a0.toList = ([] : List UInt8)
 ·rw [if_pos c2] at H
  have c2b0 := beq_iff_eq.mpr c2
  have c2b1 := bne_eq_false_iff_eq.mpr c2
  clear c2
  obtain rfl := Option.some.inj H
  go_enter Tryz.func90, Tryz.ntmps90
  go_wp2
  go_ret
  exact ⟨by first | rfl | (simp; done) | (simp [*]; done), by repeat (first | exact Drawn0.refl _ | apply Drawn0.step)⟩
 ·rw [if_neg c2] at H
  have c2b0 := beq_eq_false_iff_ne.mpr c2
  have c2b1 := bne_iff_ne.mpr c2
  by_cases c3 : 0 < (a0.size : Int)
  ·rw [if_pos c3] at H
   have c3b0 : decide (0 < (a0.size : Int)) = true := decide_eq_true c3
   have c3b1 : decide (0 < a0.size) = true := decide_eq_true (by omega)
   clear c3
   by_cases c5 : (bt a0 0) = 45
   ·rw [if_pos c5] at H
    have c5b0 := beq_iff_eq.mpr c5
    have c5b1 := bne_eq_false_iff_eq.mpr c5
    clear c5
    by_cases c6 : 1 ≤ (a0.size : Int)
    ·rw [if_pos c6] at H
     have c6b0 := eq_true c6
     have c6b1 : decide (1 ≤ (a0.size : Int)) = true := decide_eq_true c6
     clear c6
     obtain rfl := Option.some.inj H
     have p4 : 0 ≤ (0 : Int) := (by omega)
     have q4 : 0 < a0.size := z12_
     have hx4 : ∀ h : 0 < a0.size, ((a0[0]'h).toNat : Int) = bt a0 0 := bt_at a0 0
     clear p4
     have qi4 : (0 < (a0.size : Int)) = True := eq_true (of_decide_eq_true z26_)
     replace q4 := eq_true q4
     go_enter Tryz.func90, Tryz.ntmps90
     go_wp2
     go_ret
     exact ⟨by first | rfl | (simp; done) | (simp [*]; done), by repeat (first | exact Drawn0.refl _ | apply Drawn0.step)⟩
    ·rw [if_neg c6] at H
     exact absurd H (by simp)
   ·rw [if_neg c5] at H
    have c5b0 := beq_eq_false_iff_ne.mpr c5
    have c5b1 := bne_iff_ne.mpr c5
    obtain rfl := Option.some.inj H
    have p4 : 0 ≤ (0 : Int) := (by omega)
    have q4 : 0 < a0.size := z12_
    have hx4 : ∀ h : 0 < a0.size, ((a0[0]'h).toNat : Int) = bt a0 0 := bt_at a0 0
    clear p4
    have qi4 : (0 < (a0.size : Int)) = True := eq_true (of_decide_eq_true z26_)
    replace q4 := eq_true q4
    go_enter Tryz.func90, Tryz.ntmps90
    go_wp2
    go_ret
    exact ⟨by first | rfl | (simp; done) | (simp [*]; done), by repeat (first | exact Drawn0.refl _ | apply Drawn0.step)⟩
  ·rw [if_neg c3] at H
   exact absurd H (by simp)
mutual
def metrolabref01_Check.j0 : Nat → ByteArray → Bool → Option (Int)
 | 0, _, _ => none
 | k + 1, x3, x23 => if x23 = true then (some 3) else (metrolabref01_Check.l0 k x3 0)
def metrolabref01_Check.l0 : Nat → ByteArray → Int → Option (Int)
 | 0, _, _ => none
 | k + 1, x3, x4 => if x4 < (x3.size : Int) then (if 0 ≤ x4 then (if (bt x3 x4) < 48 then (some 3) else (if (bt x3 x4) > 57 then (some 3) else (metrolabref01_Check.l0 k x3 (wrap64 (x4 + 1))))) else (none)) else (if (x3.size : Int) > 1024 then (some 11) else (some 0))
end
def metrolabref01_Check.f (k : Nat) (a0 : ByteArray) : Option (Int) := (metrolabref01_size.f a0).bind fun t101 => (if t101.toList = ([] : List UInt8) then (metrolabref01_Check.j0 k t101 true) else (if 0 < (t101.size : Int) then (if (bt t101 0) = 48 then (if (t101.size : Int) > 1 then (metrolabref01_Check.j0 k t101 true) else (metrolabref01_Check.j0 k t101 (decide ((a0.size : Int) > 1)))) else (metrolabref01_Check.j0 k t101 false)) else (none)))
set_option maxHeartbeats 8000000 in
set_option maxRecDepth 100000 in
theorem metrolabref01_Check.calls (k : Nat) (a0 : ByteArray) (r : Int) (w : World) (h : metrolabref01_Check.f k a0 = some r) :
  Calls Tryz.prog 51 #[.string a0] w fun e w' => e = .returned (.int .i64 r) ∧ Drawn0 w w' := by
 have H : ((metrolabref01_size.f a0).bind fun t101 => (if t101.toList = ([] : List UInt8) then (metrolabref01_Check.j0 k t101 true) else (if 0 < (t101.size : Int) then (if (bt t101 0) = 48 then (if (t101.size : Int) > 1 then (metrolabref01_Check.j0 k t101 true) else (metrolabref01_Check.j0 k t101 (decide ((a0.size : Int) > 1)))) else (metrolabref01_Check.j0 k t101 false)) else (none)))) = some r := h
 clear h
 obtain ⟨t101, A2, H⟩ := bindA H
 have HC3 := Aside0.mk H
 clear H
 go_enter Tryz.func51, Tryz.ntmps51
 go_upto_region 2 with (first | (refine gz (f := 90) rfl (some 6) rfl Tryz.func90 (metrolabref01_size.calls a0 t101 _ A2.out) ?_; rintro w' ⟨nd, rfl⟩))
 (try simp only [Act.put, List.setIfInBounds_toArray, List.set_cons_zero, List.set_cons_succ])
 go_cut [23] (fun v23 wc => ∃ (kq : Nat) (x23_2 : Bool), v23 = .bool x23_2 ∧ Aside0 (metrolabref01_Check.j0 kq t101 x23_2 = some r) ∧ Aside0 (kq ≤ k) ∧ Drawn0 w wc)
 case first =>
  have H := HC3.out
  clear HC3
  by_cases c4 : t101.toList = ([] : List UInt8)
  ·rw [if_pos c4] at H
   have c4b0 := beq_iff_eq.mpr c4
   have c4b1 := bne_eq_false_iff_eq.mpr c4
   clear c4
   (first | rw [c4b0] | (simp only [i64_w, i32_w]; rw [c4b0]) | skip)
   have H' := Aside0.mk H
   clear H
   go_wp2
   go_meet
   case rel => exact ⟨_, (true), z25_, H', ⟨by first | omega | exact Nat.le_refl _⟩, by repeat (first | exact Drawn0.refl _ | apply Drawn0.step)⟩
  ·rw [if_neg c4] at H
   have c4b0 := beq_eq_false_iff_ne.mpr c4
   have c4b1 := bne_iff_ne.mpr c4
   (first | rw [c4b0] | (simp only [i64_w, i32_w]; rw [c4b0]) | skip)
   by_cases c5 : 0 < (t101.size : Int)
   ·rw [if_pos c5] at H
    have c5b0 : decide (0 < (t101.size : Int)) = true := decide_eq_true c5
    have c5b1 : decide (0 < t101.size) = true := decide_eq_true (by omega)
    clear c5
    by_cases c7 : (bt t101 0) = 48
    ·rw [if_pos c7] at H
     have c7b0 := beq_iff_eq.mpr c7
     have c7b1 := bne_eq_false_iff_eq.mpr c7
     clear c7
     by_cases c8 : (t101.size : Int) > 1
     ·rw [if_pos c8] at H
      have c8b0 : decide (1 < (t101.size : Int)) = true := decide_eq_true c8
      have c8b1 : decide (1 < t101.size) = true := decide_eq_true (by omega)
      clear c8
      have H' := Aside0.mk H
      clear H
      have p6 : 0 ≤ (0 : Int) := (by omega)
      have q6 : 0 < t101.size := (by have : (0 : Int) < (t101.size : Int) := of_decide_eq_true z26_; omega)
      have hx6 : ∀ h : 0 < t101.size, ((t101[0]'h).toNat : Int) = bt t101 0 := bt_at t101 0
      clear p6
      have qi6 : (0 < (t101.size : Int)) = True := eq_true (of_decide_eq_true z26_)
      replace q6 := eq_true q6
      go_wp2
      go_meet
      case rel => exact ⟨_, (true), z25_, H', ⟨by first | omega | exact Nat.le_refl _⟩, by repeat (first | exact Drawn0.refl _ | apply Drawn0.step)⟩
     ·rw [if_neg c8] at H
      have c8b0 : decide (1 < (t101.size : Int)) = false := decide_eq_false c8
      have c8b1 : decide (1 < t101.size) = false := decide_eq_false (by omega)
      clear c8
      have H' := Aside0.mk H
      clear H
      have p6 : 0 ≤ (0 : Int) := (by omega)
      have q6 : 0 < t101.size := (by have : (0 : Int) < (t101.size : Int) := of_decide_eq_true z26_; omega)
      have hx6 : ∀ h : 0 < t101.size, ((t101[0]'h).toNat : Int) = bt t101 0 := bt_at t101 0
      clear p6
      have qi6 : (0 < (t101.size : Int)) = True := eq_true (of_decide_eq_true z26_)
      replace q6 := eq_true q6
      go_wp2
      go_meet
      case rel => exact ⟨_, (decide ((a0.size : Int) > 1)), z25_, H', ⟨by first | omega | exact Nat.le_refl _⟩, by repeat (first | exact Drawn0.refl _ | apply Drawn0.step)⟩
    ·rw [if_neg c7] at H
     have c7b0 := beq_eq_false_iff_ne.mpr c7
     have c7b1 := bne_iff_ne.mpr c7
     have H' := Aside0.mk H
     clear H
     have p6 : 0 ≤ (0 : Int) := (by omega)
     have q6 : 0 < t101.size := (by have : (0 : Int) < (t101.size : Int) := of_decide_eq_true z26_; omega)
     have hx6 : ∀ h : 0 < t101.size, ((t101[0]'h).toNat : Int) = bt t101 0 := bt_at t101 0
     clear p6
     have qi6 : (0 < (t101.size : Int)) = True := eq_true (of_decide_eq_true z26_)
     replace q6 := eq_true q6
     go_wp2
     go_meet
     case rel => exact ⟨_, (false), z25_, H', ⟨by first | omega | exact Nat.le_refl _⟩, by repeat (first | exact Drawn0.refl _ | apply Drawn0.step)⟩
   ·rw [if_neg c5] at H
    exact absurd H (by simp)
 case rest =>
  clear HC3
  try clear p2
  try clear c4
  try clear c4b0
  try clear c4b1
  try clear c5
  try clear c5b0
  try clear c5b1
  try clear p6
  try clear q6
  try clear hx6
  try clear qi6
  try clear c7
  try clear c7b0
  try clear c7b1
  try clear c8
  try clear c8b0
  try clear c8b1
  try clear p6
  try clear q6
  obtain ⟨kq, x23_2, rfl, HA, HJ2, ⟨mc2, rfl⟩⟩ := hcut
  cases kq with
  | zero => exact absurd HA.out (by simp [metrolabref01_Check.j0])
  | succ kj2 =>
   have H := HA.out
   clear HA
   simp only [metrolabref01_Check.j0] at H
   by_cases c9 : x23_2 = true
   ·subst c9
    rw [if_pos rfl] at H
    obtain rfl := Option.some.inj H
    go_wp2
    go_ret
    exact ⟨by first | rfl | (simp; done) | (simp [*]; done), by repeat (first | exact Drawn0.refl _ | apply Drawn0.step)⟩
   ·replace c9 := Bool.eq_false_iff.mpr c9
    subst c9
    rw [if_neg (show ¬ (false = true) by decide)] at H
    have H' := Aside0.mk H
    clear H
    go_wp2
    go_loopg [4] kj2 (fun kq v4 w' => ∃ (x4_2 : Int), v4 = .int .i64 x4_2 ∧ Aside0 (metrolabref01_Check.l0 kq t101 x4_2 = some r) ∧ Aside0 (kq ≤ kj2) ∧ Drawn0 w w')
    case atStart => exact ⟨(0), z25_, H', ⟨Nat.le_refl _⟩, by repeat (first | exact Drawn0.refl _ | apply Drawn0.step)⟩
    case round =>
     clear H'
     try clear c2
     try clear p2
     try clear c4
     try clear c4b0
     try clear c4b1
     try clear c5
     try clear c5b0
     try clear c5b1
     try clear p6
     try clear q6
     try clear hx6
     try clear qi6
     try clear c7
     try clear c7b0
     try clear c7b1
     try clear c8
     try clear c8b0
     try clear c8b1
     try clear c9
     try clear p2
     try clear p6
     try clear q6
     obtain ⟨x4_2, rfl, HA, HK2, ⟨m2, rfl⟩⟩ := hrel
     cases gk with
     | zero => exact absurd HA.out (by simp [metrolabref01_Check.l0])
     | succ k2 =>
      have H := HA.out
      clear HA
      simp only [metrolabref01_Check.l0] at H
      by_cases c10 : x4_2 < (t101.size : Int)
      ·rw [if_pos c10] at H
       have c10b0 : decide (x4_2 < (t101.size : Int)) = true := decide_eq_true c10
       clear c10
       by_cases c11 : 0 ≤ x4_2
       ·rw [if_pos c11] at H
        have c11b0 : decide (0 ≤ x4_2) = true := decide_eq_true c11
        clear c11
        by_cases c13 : (bt t101 x4_2) < 48
        ·rw [if_pos c13] at H
         have c13b0 : decide ((bt t101 x4_2) < 48) = true := decide_eq_true c13
         clear c13
         obtain rfl := Option.some.inj H
         have p12 : 0 ≤ (x4_2 : Int) := of_decide_eq_true z26_
         have q12 : x4_2 < (t101.size : Int) := of_decide_eq_true z26_
         have hx12 := bt_at t101 x4_2
         replace p12 := eq_true p12
         replace q12 := eq_true q12
         go_wp2
         go_ret
         exact ⟨by first | rfl | (simp; done) | (simp [*]; done), by repeat (first | exact Drawn0.refl _ | apply Drawn0.step)⟩
        ·rw [if_neg c13] at H
         have c13b0 : decide ((bt t101 x4_2) < 48) = false := decide_eq_false c13
         clear c13
         by_cases c15 : (bt t101 x4_2) > 57
         ·rw [if_pos c15] at H
          have c15b0 : decide (57 < (bt t101 x4_2)) = true := decide_eq_true c15
          clear c15
          obtain rfl := Option.some.inj H
          have p12 : 0 ≤ (x4_2 : Int) := of_decide_eq_true z26_
          have q12 : x4_2 < (t101.size : Int) := of_decide_eq_true z26_
          have hx12 := bt_at t101 x4_2
          replace p12 := eq_true p12
          replace q12 := eq_true q12
          have p14 : 0 ≤ (x4_2 : Int) := of_decide_eq_true z26_
          have q14 : x4_2 < (t101.size : Int) := of_decide_eq_true z26_
          have hx14 := bt_at t101 x4_2
          replace p14 := eq_true p14
          replace q14 := eq_true q14
          go_wp2
          go_ret
          exact ⟨by first | rfl | (simp; done) | (simp [*]; done), by repeat (first | exact Drawn0.refl _ | apply Drawn0.step)⟩
         ·rw [if_neg c15] at H
          have c15b0 : decide (57 < (bt t101 x4_2)) = false := decide_eq_false c15
          clear c15
          have H' := Aside0.mk H
          clear H
          have p12 : 0 ≤ (x4_2 : Int) := of_decide_eq_true z26_
          have q12 : x4_2 < (t101.size : Int) := of_decide_eq_true z26_
          have hx12 := bt_at t101 x4_2
          replace p12 := eq_true p12
          replace q12 := eq_true q12
          have p14 : 0 ≤ (x4_2 : Int) := of_decide_eq_true z26_
          have q14 : x4_2 < (t101.size : Int) := of_decide_eq_true z26_
          have hx14 := bt_at t101 x4_2
          replace p14 := eq_true p14
          replace q14 := eq_true q14
          go_wp2
          go_roundg k2
          case measure => have := HJ2.out; have := HK2.out; omega
          case rel => exact ⟨(wrap64 (x4_2 + 1)), z25_, H', ⟨by have := HJ2.out; have := HK2.out; omega⟩, by repeat (first | exact Drawn0.refl _ | apply Drawn0.step)⟩
       ·rw [if_neg c11] at H
        exact absurd H (by simp)
      ·rw [if_neg c10] at H
       have c10b0 : decide (x4_2 < (t101.size : Int)) = false := decide_eq_false c10
       clear c10
       by_cases c16 : (t101.size : Int) > 1024
       ·rw [if_pos c16] at H
        have c16b0 : decide (1024 < (t101.size : Int)) = true := decide_eq_true c16
        have c16b1 : decide (1024 < t101.size) = true := decide_eq_true (by omega)
        clear c16
        obtain rfl := Option.some.inj H
        go_wp2
        go_ret
        exact ⟨by first | rfl | (simp; done) | (simp [*]; done), by repeat (first | exact Drawn0.refl _ | apply Drawn0.step)⟩
       ·rw [if_neg c16] at H
        have c16b0 : decide (1024 < (t101.size : Int)) = false := decide_eq_false c16
        have c16b1 : decide (1024 < t101.size) = false := decide_eq_false (by omega)
        clear c16
        obtain rfl := Option.some.inj H
        go_wp2
        go_ret
        exact ⟨by first | rfl | (simp; done) | (simp [*]; done), by repeat (first | exact Drawn0.refl _ | apply Drawn0.step)⟩
def metrolabref01_Below.f (a0 : ByteArray) : Option (Bool) := if 0 < (a0.size : Int) then (some ((bt a0 0) == 45)) else (none)
set_option maxHeartbeats 8000000 in
set_option maxRecDepth 100000 in
theorem metrolabref01_Below.calls (a0 : ByteArray) (r : Bool) (w : World) (h : metrolabref01_Below.f a0 = some r) :
  Calls Tryz.prog 92 #[.string a0] w fun e w' => e = .returned (.bool r) ∧ Drawn0 w w' := by
 have H : (if 0 < (a0.size : Int) then (some ((bt a0 0) == 45)) else (none)) = some r := h
 clear h
 by_cases c2 : 0 < (a0.size : Int)
 ·rw [if_pos c2] at H
  have c2b0 : decide (0 < (a0.size : Int)) = true := decide_eq_true c2
  have c2b1 : decide (0 < a0.size) = true := decide_eq_true (by omega)
  clear c2
  obtain rfl := Option.some.inj H
  have p3 : 0 ≤ (0 : Int) := (by omega)
  have q3 : 0 < a0.size := z12_
  have hx3 : ∀ h : 0 < a0.size, ((a0[0]'h).toNat : Int) = bt a0 0 := bt_at a0 0
  clear p3
  have qi3 : (0 < (a0.size : Int)) = True := eq_true (of_decide_eq_true z26_)
  replace q3 := eq_true q3
  go_enter Tryz.func92, Tryz.ntmps92
  go_wp2
  go_ret
  exact ⟨by first | rfl | (simp; done) | (simp [*]; done), by repeat (first | exact Drawn0.refl _ | apply Drawn0.step)⟩
 ·rw [if_neg c2] at H
  exact absurd H (by simp)
def metrolabref01_signed.f (a0 : ByteArray) (a1 : Bool) : Option (ByteArray) := if a1 = true then (if a0.toList = ([48] : List UInt8) then (some a0) else (if 1 + a0.size ≤ 9223372036854775807 then (some ((⟨#[45]⟩ : ByteArray) ++ a0)) else (none))) else (some a0)
set_option maxHeartbeats 8000000 in
set_option maxRecDepth 100000 in
theorem metrolabref01_signed.calls (a0 : ByteArray) (a1 : Bool) (r : ByteArray) (w : World) (h : metrolabref01_signed.f a0 a1 = some r) :
  Calls Tryz.prog 104 #[.string a0, .bool a1] w fun e w' => e = .returned (.string r) ∧ Drawn0 w w' := by
 have H : (if a1 = true then (if a0.toList = ([48] : List UInt8) then (some a0) else (if 1 + a0.size ≤ 9223372036854775807 then (some ((⟨#[45]⟩ : ByteArray) ++ a0)) else (none))) else (some a0)) = some r := h
 clear h
 by_cases c3 : a1 = true
 ·subst c3
  rw [if_pos rfl] at H
  by_cases c4 : a0.toList = ([48] : List UInt8)
  ·rw [if_pos c4] at H
   have c4b0 := beq_iff_eq.mpr c4
   have c4b1 := bne_eq_false_iff_eq.mpr c4
   clear c4
   obtain rfl := Option.some.inj H
   go_enter Tryz.func104, Tryz.ntmps104
   go_wp2
   go_ret
   exact ⟨by first | rfl | (simp; done) | (simp [*]; done), by repeat (first | exact Drawn0.refl _ | apply Drawn0.step)⟩
  ·rw [if_neg c4] at H
   have c4b0 := beq_eq_false_iff_ne.mpr c4
   have c4b1 := bne_iff_ne.mpr c4
   by_cases c5 : 1 + a0.size ≤ 9223372036854775807
   ·rw [if_pos c5] at H
    have c5b0 := eq_true c5
    have c5b1 : decide (1 + a0.size ≤ 9223372036854775807) = true := decide_eq_true c5
    try have c5b2 : (9223372036854775807 < 1 + a0.size) = False := eq_false (Nat.not_lt.2 c5)
    obtain rfl := Option.some.inj H
    go_enter Tryz.func104, Tryz.ntmps104
    go_wp2
    go_ret
    exact ⟨by first | rfl | (simp; done) | (simp [*]; done), by repeat (first | exact Drawn0.refl _ | apply Drawn0.step)⟩
   ·rw [if_neg c5] at H
    exact absurd H (by simp)
 ·replace c3 := Bool.eq_false_iff.mpr c3
  subst c3
  rw [if_neg (show ¬ (false = true) by decide)] at H
  obtain rfl := Option.some.inj H
  go_enter Tryz.func104, Tryz.ntmps104
  go_wp2
  go_ret
  exact ⟨by first | rfl | (simp; done) | (simp [*]; done), by repeat (first | exact Drawn0.refl _ | apply Drawn0.step)⟩
def metrolabref01_Turned.f (a0 : ByteArray) : Option (ByteArray) := (metrolabref01_size.f a0).bind fun t102 => ((metrolabref01_Below.f a0).bind fun t103 => ((metrolabref01_signed.f t102 (!t103)).bind fun t104 => (some t104)))
set_option maxHeartbeats 8000000 in
set_option maxRecDepth 100000 in
theorem metrolabref01_Turned.calls (a0 : ByteArray) (r : ByteArray) (w : World) (h : metrolabref01_Turned.f a0 = some r) :
  Calls Tryz.prog 129 #[.string a0] w fun e w' => e = .returned (.string r) ∧ Drawn0 w w' := by
 have H : ((metrolabref01_size.f a0).bind fun t102 => ((metrolabref01_Below.f a0).bind fun t103 => ((metrolabref01_signed.f t102 (!t103)).bind fun t104 => (some t104)))) = some r := h
 clear h
 obtain ⟨t102, A2, H⟩ := bindA H
 obtain ⟨t103, A3, H⟩ := bindA H
 obtain ⟨t104, A4, H⟩ := bindA H
 obtain rfl := Option.some.inj H
 go_enter Tryz.func129, Tryz.ntmps129
 go_wp2_with (first | (refine gz (f := 90) rfl (some 4) rfl Tryz.func90 (metrolabref01_size.calls a0 t102 _ A2.out) ?_; rintro w' ⟨nd, rfl⟩) | (refine gz (f := 92) rfl (some 6) rfl Tryz.func92 (metrolabref01_Below.calls a0 t103 _ A3.out) ?_; rintro w' ⟨nd, rfl⟩) | (refine gz (f := 104) rfl (some 8) rfl Tryz.func104 (metrolabref01_signed.calls t102 (!t103) t104 _ A4.out) ?_; rintro w' ⟨nd, rfl⟩))
 go_ret
 exact ⟨by first | rfl | (simp; done) | (simp [*]; done), by repeat (first | exact Drawn0.refl _ | apply Drawn0.step)⟩
mutual
def metrolabref01_Of.j0 : Nat → Int → Bool → Option (ByteArray)
 | 0, _, _ => none
 | k + 1, x0, x11 => if x11 = true then (some (⟨#[45, 57, 50, 50, 51, 51, 55, 50, 48, 51, 54, 56, 53, 52, 55, 55, 53, 56, 48, 56]⟩ : ByteArray)) else (if x0 < 0 then ((metrolabref01_Of.f k (wrap64 (-x0))).bind fun t105 => ((metrolabref01_Turned.f t105).bind fun t106 => (some t106))) else (metrolabref01_Of.l0 k x0 (⟨#[]⟩ : ByteArray)))
def metrolabref01_Of.l0 : Nat → Int → ByteArray → Option (ByteArray)
 | 0, _, _ => none
 | k + 1, x0, x3 => if x0 > 9 then ((some (([(wrap64 (48 + (Int.tmod x0 10))) % 256] : List Int) : List Int)).bind fun y107 => (if (strOfNums y107).size + x3.size ≤ 9223372036854775807 then (metrolabref01_Of.l0 k (wrap64 (Int.tdiv x0 10)) ((strOfNums y107) ++ x3)) else (none))) else ((some (([(wrap64 (48 + x0)) % 256] : List Int) : List Int)).bind fun y110 => (if (strOfNums y110).size + x3.size ≤ 9223372036854775807 then (some ((strOfNums y110) ++ x3)) else (none)))
def metrolabref01_Of.f : Nat → Int → Option (ByteArray)
 | 0, _ => none
 | k + 1, a0 => if a0 = (wrap64 (-a0)) then (metrolabref01_Of.j0 k a0 (a0 != 0)) else (metrolabref01_Of.j0 k a0 false)
end
set_option maxHeartbeats 8000000 in
set_option maxRecDepth 100000 in
theorem metrolabref01_Of.calls (k : Nat) : ∀ (a0 : Int) (r : ByteArray) (w : World) (h : metrolabref01_Of.f k a0 = some r),
  Calls Tryz.prog 106 #[.int .i64 a0] w fun e w' => e = .returned (.string r) ∧ Below w.heap.size w w' := by
 induction k using Nat.strongRecOn with
 | _ k ih =>
 intro a0 r w h
 cases k with
 | zero => exact absurd h (by simp [metrolabref01_Of.f])
 | succ k =>
 simp only [metrolabref01_Of.f] at h
 have HB := Aside0.mk (Below.refl w.heap.size w)
 have H : (if a0 = (wrap64 (-a0)) then (metrolabref01_Of.j0 k a0 (a0 != 0)) else (metrolabref01_Of.j0 k a0 false)) = some r := h
 clear h
 have HC2 := Aside0.mk H
 clear H
 go_enter Tryz.func106, Tryz.ntmps106
 go_upto_region 1 with (fail)
 go_cut [11] (fun v11 wc => ∃ (kq : Nat) (x11_1 : Bool), v11 = .bool x11_1 ∧ Aside0 (metrolabref01_Of.j0 kq a0 x11_1 = some r) ∧ Aside0 (kq ≤ k) ∧ Aside0 (Below w.heap.size w wc))
 case first =>
  have H := HC2.out
  clear HC2
  by_cases c3 : a0 = (wrap64 (-a0))
  ·rw [if_pos c3] at H
   have c3b0 := beq_iff_eq.mpr c3
   have c3b1 := bne_eq_false_iff_eq.mpr c3
   clear c3
   (first | rw [c3b0] | (simp only [i64_w, i32_w]; rw [c3b0]) | skip)
   have H' := Aside0.mk H
   clear H
   go_wp2
   go_meet
   case rel => exact ⟨_, ((a0 != 0)), z25_, H', ⟨by first | omega | exact Nat.le_refl _⟩, ⟨by repeat (first | (with_reducible first | exact HB.out | apply below_alloc | apply pw_below_drewN | apply below_drew1) | exact HB.out)⟩⟩
  ·rw [if_neg c3] at H
   have c3b0 := beq_eq_false_iff_ne.mpr c3
   have c3b1 := bne_iff_ne.mpr c3
   (first | rw [c3b0] | (simp only [i64_w, i32_w]; rw [c3b0]) | skip)
   have H' := Aside0.mk H
   clear H
   go_wp2
   go_meet
   case rel => exact ⟨_, (false), z25_, H', ⟨by first | omega | exact Nat.le_refl _⟩, ⟨by repeat (first | (with_reducible first | exact HB.out | apply below_alloc | apply pw_below_drewN | apply below_drew1) | exact HB.out)⟩⟩
 case rest =>
  clear HC2
  try clear c1
  try clear p2
  try clear c3
  try clear c3b0
  try clear c3b1
  obtain ⟨kq, x11_1, rfl, HA, HJ1, HB⟩ := hcut
  cases kq with
  | zero => exact absurd HA.out (by simp [metrolabref01_Of.j0])
  | succ kj1 =>
   have H := HA.out
   clear HA
   simp only [metrolabref01_Of.j0] at H
   by_cases c4 : x11_1 = true
   ·subst c4
    rw [if_pos rfl] at H
    obtain rfl := Option.some.inj H
    go_wp2
    go_ret
    exact ⟨z24_, z10_⟩
   ·replace c4 := Bool.eq_false_iff.mpr c4
    subst c4
    rw [if_neg (show ¬ (false = true) by decide)] at H
    by_cases c5 : a0 < 0
    ·rw [if_pos c5] at H
     have c5b0 : decide (a0 < 0) = true := decide_eq_true c5
     clear c5
     obtain ⟨t105, A6, H⟩ := bindA H
     obtain ⟨t106, A7, H⟩ := bindA H
     obtain rfl := Option.some.inj H
     go_wp2_with (first | ((with_reducible refine gate_callee (f := 106) rfl ?_); refine goesL_ (some 16) rfl rfl Tryz.func106 (by kernel_rfl) rfl #[.int .i64 (wrap64 (-a0))] rfl z9_ ?_; (with_reducible refine (ih kj1 (by have := HJ1.out; omega) (wrap64 (-a0)) t105 _ A6.out).mono ?_); rintro e w8 ⟨rfl, hb⟩; refine ⟨_, rfl, ?_⟩; replace HB := Aside0.mk (below_step z10_ hb); clear hb) | (refine gz (f := 129) rfl (some 17) rfl Tryz.func129 (metrolabref01_Turned.calls t105 t106 _ A7.out) ?_; rintro w' ⟨nd, rfl⟩))
     go_ret
     exact ⟨z24_, z10_⟩
    ·rw [if_neg c5] at H
     have c5b0 : decide (a0 < 0) = false := decide_eq_false c5
     clear c5
     have H' := Aside0.mk H
     clear H
     go_wp2
     go_loopg [0, 3] kj1 (fun kq v0 v3 w' => ∃ (x0_2 : Int) (x3_2 : ByteArray), v0 = .int .i64 x0_2 ∧ v3 = .string x3_2 ∧ Aside0 (metrolabref01_Of.l0 kq x0_2 x3_2 = some r) ∧ Aside0 (kq ≤ kj1) ∧ Aside0 (Below w.heap.size w w'))
     case atStart => exact ⟨(a0), ((⟨#[]⟩ : ByteArray)), z25_, z25_, H', ⟨Nat.le_refl _⟩, ⟨by repeat (first | (with_reducible first | exact HB.out | apply below_alloc | apply pw_below_drewN | apply below_drew1) | exact HB.out)⟩⟩
     case round =>
      clear H'
      try clear c1
      try clear p2
      try clear c3
      try clear c3b0
      try clear c3b1
      try clear c4
      try clear c5
      try clear c5b0
      try clear p6
      try clear p2
      obtain ⟨x0_2, x3_2, rfl, rfl, HA, HK2, HB⟩ := hrel
      cases gk with
      | zero => exact absurd HA.out (by simp [metrolabref01_Of.l0])
      | succ k2 =>
       have H := HA.out
       clear HA
       simp only [metrolabref01_Of.l0] at H
       by_cases c9 : x0_2 > 9
       ·rw [if_pos c9] at H
        have c9b0 : decide (9 < x0_2) = true := decide_eq_true c9
        clear c9
        obtain ⟨y107, hy107⟩ : ∃ y_ : List Int, y_ = (([(wrap64 (48 + (Int.tmod x0_2 10))) % 256] : List Int)) := ⟨_, rfl⟩
        replace H : (if (strOfNums y107).size + x3_2.size ≤ 9223372036854775807 then (metrolabref01_Of.l0 k2 (wrap64 (Int.tdiv x0_2 10)) ((strOfNums y107) ++ x3_2)) else (none)) = some r := by first | (rw [hy107]; with_reducible exact H) | (have H2_ := (Option.bind_some _ _).symm.trans H; rw [hy107]; with_reducible exact H2_) | (have H2_ := (Option.bind_some _ _).symm.trans H; with_reducible exact H2_) | with_reducible exact H | (rw [hy107]; exact H) | exact H
        have Ny107 := Aside0.mk hy107
        clear hy107
        by_cases c10 : (strOfNums y107).size + x3_2.size ≤ 9223372036854775807
        ·rw [if_pos c10] at H
         have c10b0 := eq_true c10
         have c10b1 : decide ((strOfNums y107).size + x3_2.size ≤ 9223372036854775807) = true := decide_eq_true c10
         try have c10b2 : (9223372036854775807 < (strOfNums y107).size + x3_2.size) = False := eq_false (Nat.not_lt.2 c10)
         have H' := Aside0.mk H
         clear H
         go_wp2_with (first | ((with_reducible refine gate_dst (N := 24) rfl ?_); refine Kd.R_lit (Kd.int .u8) _ 5 ?hg (N := 24) ?hd (xs := ([(wrap64 (48 + (Int.tmod x0_2 10))) % 256] : List Int)) (inner := [.int .u8 ((wrap64 (48 + (Int.tmod x0_2 10))) % 256)]) (ok := fun _ => True) (okp := fun _ => True) ?hr ?hp (fun _ hk => hk) trivial (Below.refl _ _) (Nat.le_refl _) (by simp) ?_; (case hd => rfl); (case hg => rfl); (case hr => first | (go_simp; done) | (go_simp; rfl)); (case hp => exact (Reps.one (show Kd.M (Kd.int .u8) _ _ _ ((wrap64 (48 + (Int.tmod x0_2 10))) % 256) [.int .u8 ((wrap64 (48 + (Int.tmod x0_2 10))) % 256)] from rfl) (Reps.none _ _))); intro v108 w11 ho12 hb hg_ hnew_; clear hg_ hnew_; (first | rw [← Ny107.out] at ho12 | (simp only [Int.reduceToNat] at ho12; rw [← Ny107.out] at ho12)); have n0_ := Aside0.mk (Kd.R_lower ho12 (below_size z10_)); have n1_ := Aside0.mk (below_step z10_ hb); clear HB; have HO109 := n0_; have HB := n1_; clear n0_ n1_; clear hb ho12; have hcv13 := own_string (P := Tryz.prog) Tryz.underlying161 Tryz.underlying5 Tryz.underlying9 (Kd.own_of_R HO109.out)))
         go_roundg k2
         case measure => have := HJ1.out; have := HK2.out; omega
         case rel => exact ⟨(wrap64 (Int.tdiv x0_2 10)), ((strOfNums y107) ++ x3_2), z25_, z25_, H', ⟨by have := HJ1.out; have := HK2.out; omega⟩, ⟨by repeat (first | (with_reducible first | exact HB.out | apply below_alloc | apply pw_below_drewN | apply below_drew1) | exact HB.out)⟩⟩
        ·rw [if_neg c10] at H
         exact absurd H (by simp)
       ·rw [if_neg c9] at H
        have c9b0 : decide (9 < x0_2) = false := decide_eq_false c9
        clear c9
        obtain ⟨y110, hy110⟩ : ∃ y_ : List Int, y_ = (([(wrap64 (48 + x0_2)) % 256] : List Int)) := ⟨_, rfl⟩
        replace H : (if (strOfNums y110).size + x3_2.size ≤ 9223372036854775807 then (some ((strOfNums y110) ++ x3_2)) else (none)) = some r := by first | (rw [hy110]; with_reducible exact H) | (have H2_ := (Option.bind_some _ _).symm.trans H; rw [hy110]; with_reducible exact H2_) | (have H2_ := (Option.bind_some _ _).symm.trans H; with_reducible exact H2_) | with_reducible exact H | (rw [hy110]; exact H) | exact H
        have Ny110 := Aside0.mk hy110
        clear hy110
        by_cases c14 : (strOfNums y110).size + x3_2.size ≤ 9223372036854775807
        ·rw [if_pos c14] at H
         have c14b0 := eq_true c14
         have c14b1 : decide ((strOfNums y110).size + x3_2.size ≤ 9223372036854775807) = true := decide_eq_true c14
         try have c14b2 : (9223372036854775807 < (strOfNums y110).size + x3_2.size) = False := eq_false (Nat.not_lt.2 c14)
         obtain rfl := Option.some.inj H
         go_wp2_with (first | ((with_reducible refine gate_dst (N := 33) rfl ?_); refine Kd.R_lit (Kd.int .u8) _ 5 ?hg (N := 33) ?hd (xs := ([(wrap64 (48 + x0_2)) % 256] : List Int)) (inner := [.int .u8 ((wrap64 (48 + x0_2)) % 256)]) (ok := fun _ => True) (okp := fun _ => True) ?hr ?hp (fun _ hk => hk) trivial (Below.refl _ _) (Nat.le_refl _) (by simp) ?_; (case hd => rfl); (case hg => rfl); (case hr => first | (go_simp; done) | (go_simp; rfl)); (case hp => exact (Reps.one (show Kd.M (Kd.int .u8) _ _ _ ((wrap64 (48 + x0_2)) % 256) [.int .u8 ((wrap64 (48 + x0_2)) % 256)] from rfl) (Reps.none _ _))); intro v111 w15 ho16 hb hg_ hnew_; clear hg_ hnew_; (first | rw [← Ny110.out] at ho16 | (simp only [Int.reduceToNat] at ho16; rw [← Ny110.out] at ho16)); have n0_ := Aside0.mk (Kd.R_lower ho16 (below_size z10_)); have n1_ := Aside0.mk (below_step z10_ hb); clear HB; have HO112 := n0_; have HB := n1_; clear n0_ n1_; clear hb ho16; have hcv17 := own_string (P := Tryz.prog) Tryz.underlying161 Tryz.underlying5 Tryz.underlying9 (Kd.own_of_R HO112.out)))
         go_ret
         exact ⟨z24_, z10_⟩
        ·rw [if_neg c14] at H
         exact absurd H (by simp)
def metrolabref01_number.l0 : Nat → ByteArray → Int → ByteArray → Int → Option (Int)
 | 0, _, _, _, _ => none
 | k + 1, x0, x3, x4, x5 => if x5 < (x4.size : Int) then (if 0 ≤ x5 then (metrolabref01_number.l0 k x0 (wrap64 ((wrap64 (10 * x3)) + (((bt x4 x5) - 48) % 256))) x4 (wrap64 (x5 + 1))) else (none)) else ((metrolabref01_Below.f x0).bind fun t114 => (if t114 = true then (some (wrap64 (-x3))) else (some x3)))
def metrolabref01_number.f (k : Nat) (a0 : ByteArray) : Option (Int) := (metrolabref01_size.f a0).bind fun t113 => (metrolabref01_number.l0 k a0 0 t113 0)
set_option maxHeartbeats 8000000 in
set_option maxRecDepth 100000 in
theorem metrolabref01_number.calls (k : Nat) (a0 : ByteArray) (r : Int) (w : World) (h : metrolabref01_number.f k a0 = some r) :
  Calls Tryz.prog 140 #[.string a0] w fun e w' => e = .returned (.int .i64 r) ∧ Drawn0 w w' := by
 have H : ((metrolabref01_size.f a0).bind fun t113 => (metrolabref01_number.l0 k a0 0 t113 0)) = some r := h
 clear h
 obtain ⟨t113, A2, H⟩ := bindA H
 have H' := Aside0.mk H
 clear H
 go_enter Tryz.func140, Tryz.ntmps140
 go_wp2_with (first | (refine gz (f := 90) rfl (some 7) rfl Tryz.func90 (metrolabref01_size.calls a0 t113 _ A2.out) ?_; rintro w' ⟨nd, rfl⟩))
 go_loopg [3, 5] k (fun kq v3 v5 w' => ∃ (x3_1 : Int) (x5_1 : Int), v3 = .int .i64 x3_1 ∧ v5 = .int .i64 x5_1 ∧ Aside0 (metrolabref01_number.l0 kq a0 x3_1 t113 x5_1 = some r) ∧ Aside0 (kq ≤ k) ∧ Drawn0 w w')
 case atStart => exact ⟨(0), (0), z25_, z25_, H', ⟨Nat.le_refl _⟩, by repeat (first | exact Drawn0.refl _ | apply Drawn0.step)⟩
 case round =>
  clear H'
  try clear c1
  try clear p2
  obtain ⟨x3_1, x5_1, rfl, rfl, HA, HK1, ⟨m1, rfl⟩⟩ := hrel
  cases gk with
  | zero => exact absurd HA.out (by simp [metrolabref01_number.l0])
  | succ k1 =>
   have H := HA.out
   clear HA
   simp only [metrolabref01_number.l0] at H
   by_cases c3 : x5_1 < (t113.size : Int)
   ·rw [if_pos c3] at H
    have c3b0 : decide (x5_1 < (t113.size : Int)) = true := decide_eq_true c3
    clear c3
    by_cases c4 : 0 ≤ x5_1
    ·rw [if_pos c4] at H
     have c4b0 : decide (0 ≤ x5_1) = true := decide_eq_true c4
     clear c4
     have H' := Aside0.mk H
     clear H
     have p5 : 0 ≤ (x5_1 : Int) := of_decide_eq_true z26_
     have q5 : x5_1 < (t113.size : Int) := of_decide_eq_true z26_
     have hx5 := bt_at t113 x5_1
     replace p5 := eq_true p5
     replace q5 := eq_true q5
     go_wp2
     go_roundg k1
     case measure => have := HK1.out; omega
     case rel => exact ⟨(wrap64 ((wrap64 (10 * x3_1)) + (((bt t113 x5_1) - 48) % 256))), (wrap64 (x5_1 + 1)), z25_, z25_, H', ⟨by have := HK1.out; omega⟩, by repeat (first | exact Drawn0.refl _ | apply Drawn0.step)⟩
    ·rw [if_neg c4] at H
     exact absurd H (by simp)
   ·rw [if_neg c3] at H
    have c3b0 : decide (x5_1 < (t113.size : Int)) = false := decide_eq_false c3
    clear c3
    obtain ⟨t114, A6, H⟩ := bindA H
    by_cases c7 : t114 = true
    ·subst c7
     rw [if_pos rfl] at H
     obtain rfl := Option.some.inj H
     go_wp2_with (first | (refine gz (f := 92) rfl (some 23) rfl Tryz.func92 (metrolabref01_Below.calls a0 true _ A6.out) ?_; rintro w' ⟨nd, rfl⟩))
     go_ret
     exact ⟨by first | rfl | (simp; done) | (simp [*]; done), by repeat (first | exact Drawn0.refl _ | apply Drawn0.step)⟩
    ·replace c7 := Bool.eq_false_iff.mpr c7
     subst c7
     rw [if_neg (show ¬ (false = true) by decide)] at H
     obtain rfl := Option.some.inj H
     go_wp2_with (first | (refine gz (f := 92) rfl (some 23) rfl Tryz.func92 (metrolabref01_Below.calls a0 false _ A6.out) ?_; rintro w' ⟨nd, rfl⟩))
     go_ret
     exact ⟨by first | rfl | (simp; done) | (simp [*]; done), by repeat (first | exact Drawn0.refl _ | apply Drawn0.step)⟩
end Go.Proofs.YtkdpcgmnkifbbaaGreatDoor.R
end
section
namespace Go.Proofs.YtkdpcgmnkifbbaaGreatDoor.R
open Go.RowKit Go.Proofs.YtkdpcgmnkifbbaaGreatDoorW.PrintWords Go.Proofs.YtkdpcgmnkifbbaaGreatDoorW.PrintLast Go.Proofs.YtkdpcgmnkifbbaaGreatDoorW.PrintMore
attribute [local go_sem] max2_int min2_int max_two min_two max_three min_three max_four min_four
set_option linter.unusedVariables false
set_option linter.unusedSimpArgs false
def metrolabref01_brief.j0 : Nat → ByteArray → ByteArray → Bool → Option (Int × Int × Bool)
 | 0, _, _, _ => none
 | k + 1, x0, x1, x16 => if x16 = true then (some (0, 0, false)) else ((metrolabref01_number.f k x0).bind fun t117 => ((metrolabref01_number.f k x1).bind fun t118 => (some (t117, t118, true))))
def metrolabref01_brief.f (k : Nat) (a0 : ByteArray) (a1 : ByteArray) : Option (Int × Int × Bool) := (metrolabref01_size.f a0).bind fun t115 => (if (t115.size : Int) > 18 then (metrolabref01_brief.j0 k a0 a1 true) else ((metrolabref01_size.f a1).bind fun t116 => (metrolabref01_brief.j0 k a0 a1 (decide ((t116.size : Int) > 18)))))
set_option maxHeartbeats 8000000 in
set_option maxRecDepth 100000 in
theorem metrolabref01_brief.calls (k : Nat) (a0 : ByteArray) (a1 : ByteArray) (r1 : Int) (r2 : Int) (r3 : Bool) (w : World) (h : metrolabref01_brief.f k a0 a1 = some (r1, r2, r3)) :
  Calls Tryz.prog 105 #[.string a0, .string a1] w fun e w' => e = .returned (.tuple #[.int .i64 r1, .int .i64 r2, .bool r3]) ∧ Drawn0 w w' := by
 have H : ((metrolabref01_size.f a0).bind fun t115 => (if (t115.size : Int) > 18 then (metrolabref01_brief.j0 k a0 a1 true) else ((metrolabref01_size.f a1).bind fun t116 => (metrolabref01_brief.j0 k a0 a1 (decide ((t116.size : Int) > 18)))))) = some (r1, r2, r3) := h
 clear h
 have HC3 := Aside0.mk H
 clear H
 go_enter Tryz.func105, Tryz.ntmps105
 go_upto_region 1 with (fail)
 go_cut [16] (fun v16 wc => ∃ (kq : Nat) (x16_2 : Bool), v16 = .bool x16_2 ∧ Aside0 (metrolabref01_brief.j0 kq a0 a1 x16_2 = some (r1, r2, r3)) ∧ Aside0 (kq ≤ k) ∧ Drawn0 w wc)
 case first =>
  have H := HC3.out
  clear HC3
  obtain ⟨t115, A4, H⟩ := bindA H
  by_cases c5 : (t115.size : Int) > 18
  ·rw [if_pos c5] at H
   have c5b0 : decide (18 < (t115.size : Int)) = true := decide_eq_true c5
   have c5b1 : decide (18 < t115.size) = true := decide_eq_true (by omega)
   clear c5
   (first | rw [c5b0] | (simp only [i64_w, i32_w]; rw [c5b0]) | skip)
   have H' := Aside0.mk H
   clear H
   go_wp2_with (first | (refine gz (f := 90) rfl (some 8) rfl Tryz.func90 (metrolabref01_size.calls a0 t115 _ A4.out) ?_; rintro w' ⟨nd, rfl⟩))
   go_meet
   case rel => exact ⟨_, (true), z25_, H', ⟨by first | omega | exact Nat.le_refl _⟩, by repeat (first | exact Drawn0.refl _ | apply Drawn0.step)⟩
  ·rw [if_neg c5] at H
   have c5b0 : decide (18 < (t115.size : Int)) = false := decide_eq_false c5
   have c5b1 : decide (18 < t115.size) = false := decide_eq_false (by omega)
   clear c5
   (first | rw [c5b0] | (simp only [i64_w, i32_w]; rw [c5b0]) | skip)
   obtain ⟨t116, A6, H⟩ := bindA H
   have H' := Aside0.mk H
   clear H
   go_wp2_with (first | (refine gz (f := 90) rfl (some 8) rfl Tryz.func90 (metrolabref01_size.calls a0 t115 _ A4.out) ?_; rintro w' ⟨nd, rfl⟩) | (go_at_call 90; (with_reducible refine (metrolabref01_size.calls a1 t116 _ A6.out).mono ?_); rintro e w' ⟨rfl, ⟨nd, rfl⟩⟩))
   go_meet
   case rel => exact ⟨_, (decide ((t116.size : Int) > 18)), z25_, H', ⟨by first | omega | exact Nat.le_refl _⟩, by repeat (first | exact Drawn0.refl _ | apply Drawn0.step)⟩
 case rest =>
  clear HC3
  try clear c1
  try clear p2
  try clear c5
  try clear c5b0
  try clear c5b1
  obtain ⟨kq, x16_2, rfl, HA, HJ2, ⟨mc2, rfl⟩⟩ := hcut
  cases kq with
  | zero => exact absurd HA.out (by simp [metrolabref01_brief.j0])
  | succ kj2 =>
   have H := HA.out
   clear HA
   simp only [metrolabref01_brief.j0] at H
   by_cases c7 : x16_2 = true
   ·subst c7
    rw [if_pos rfl] at H
    simp only [Option.some.injEq, Prod.mk.injEq] at H
    obtain ⟨rfl, rfl, rfl⟩ := H
    go_wp2
    go_ret3
    exact ⟨by first | rfl | (simp; done) | (simp [*]; done), by repeat (first | exact Drawn0.refl _ | apply Drawn0.step)⟩
   ·replace c7 := Bool.eq_false_iff.mpr c7
    subst c7
    rw [if_neg (show ¬ (false = true) by decide)] at H
    obtain ⟨t117, A8, H⟩ := bindA H
    obtain ⟨t118, A9, H⟩ := bindA H
    simp only [Option.some.injEq, Prod.mk.injEq] at H
    obtain ⟨rfl, rfl, rfl⟩ := H
    go_wp2_with (first | (refine gz (f := 140) rfl (some 18) rfl Tryz.func140 (metrolabref01_number.calls kj2 a0 t117 _ A8.out) ?_; rintro w' ⟨nd, rfl⟩) | (refine gz (f := 140) rfl (some 20) rfl Tryz.func140 (metrolabref01_number.calls kj2 a1 t118 _ A9.out) ?_; rintro w' ⟨nd, rfl⟩))
    go_ret3
    exact ⟨by first | rfl | (simp; done) | (simp [*]; done), by repeat (first | exact Drawn0.refl _ | apply Drawn0.step)⟩
def metrolabref01_bare.l0 : Nat → ByteArray → Option (ByteArray)
 | 0, _ => none
 | k + 1, x0 => if (x0.size : Int) > 1 then (if 0 < (x0.size : Int) then (if (bt x0 0) = 48 then (if 1 ≤ (x0.size : Int) then (metrolabref01_bare.l0 k (x0.extract 1 x0.size)) else (none)) else (some x0)) else (none)) else (some x0)
def metrolabref01_bare.f (k : Nat) (a0 : ByteArray) : Option (ByteArray) := metrolabref01_bare.l0 k a0
set_option maxHeartbeats 8000000 in
set_option maxRecDepth 100000 in
theorem metrolabref01_bare.calls (k : Nat) (a0 : ByteArray) (r : ByteArray) (w : World) (h : metrolabref01_bare.f k a0 = some r) :
  Calls Tryz.prog 141 #[.string a0] w fun e w' => e = .returned (.string r) ∧ Drawn0 w w' := by
 have H : (metrolabref01_bare.l0 k a0) = some r := h
 clear h
 have H' := Aside0.mk H
 clear H
 go_enter Tryz.func141, Tryz.ntmps141
 go_wp2
 go_loopg [0] k (fun kq v0 w' => ∃ (x0_1 : ByteArray), v0 = .string x0_1 ∧ Aside0 (metrolabref01_bare.l0 kq x0_1 = some r) ∧ Aside0 (kq ≤ k) ∧ Drawn0 w w')
 case atStart => exact ⟨(a0), z25_, H', ⟨Nat.le_refl _⟩, by repeat (first | exact Drawn0.refl _ | apply Drawn0.step)⟩
 case round =>
  clear H'
  try clear c1
  obtain ⟨x0_1, rfl, HA, HK1, ⟨m1, rfl⟩⟩ := hrel
  cases gk with
  | zero => exact absurd HA.out (by simp [metrolabref01_bare.l0])
  | succ k1 =>
   have H := HA.out
   clear HA
   simp only [metrolabref01_bare.l0] at H
   by_cases c2 : (x0_1.size : Int) > 1
   ·rw [if_pos c2] at H
    have c2b0 : decide (1 < (x0_1.size : Int)) = true := decide_eq_true c2
    have c2b1 : decide (1 < x0_1.size) = true := decide_eq_true (by omega)
    clear c2
    by_cases c3 : 0 < (x0_1.size : Int)
    ·rw [if_pos c3] at H
     have c3b0 : decide (0 < (x0_1.size : Int)) = true := decide_eq_true c3
     have c3b1 : decide (0 < x0_1.size) = true := decide_eq_true (by omega)
     clear c3
     by_cases c5 : (bt x0_1 0) = 48
     ·rw [if_pos c5] at H
      have c5b0 := beq_iff_eq.mpr c5
      have c5b1 := bne_eq_false_iff_eq.mpr c5
      clear c5
      by_cases c6 : 1 ≤ (x0_1.size : Int)
      ·rw [if_pos c6] at H
       have c6b0 := eq_true c6
       have c6b1 : decide (1 ≤ (x0_1.size : Int)) = true := decide_eq_true c6
       clear c6
       have H' := Aside0.mk H
       clear H
       have p4 : 0 ≤ (0 : Int) := (by omega)
       have q4 : 0 < x0_1.size := (by have : (0 : Int) < (x0_1.size : Int) := of_decide_eq_true z26_; omega)
       have hx4 : ∀ h : 0 < x0_1.size, ((x0_1[0]'h).toNat : Int) = bt x0_1 0 := bt_at x0_1 0
       clear p4
       have qi4 : (0 < (x0_1.size : Int)) = True := eq_true (of_decide_eq_true z26_)
       replace q4 := eq_true q4
       go_wp2
       go_roundg k1
       case measure => have := HK1.out; omega
       case rel => exact ⟨(x0_1.extract 1 x0_1.size), z25_, H', ⟨by have := HK1.out; omega⟩, by repeat (first | exact Drawn0.refl _ | apply Drawn0.step)⟩
      ·rw [if_neg c6] at H
       exact absurd H (by simp)
     ·rw [if_neg c5] at H
      have c5b0 := beq_eq_false_iff_ne.mpr c5
      have c5b1 := bne_iff_ne.mpr c5
      obtain rfl := Option.some.inj H
      have p4 : 0 ≤ (0 : Int) := (by omega)
      have q4 : 0 < x0_1.size := (by have : (0 : Int) < (x0_1.size : Int) := of_decide_eq_true z26_; omega)
      have hx4 : ∀ h : 0 < x0_1.size, ((x0_1[0]'h).toNat : Int) = bt x0_1 0 := bt_at x0_1 0
      clear p4
      have qi4 : (0 < (x0_1.size : Int)) = True := eq_true (of_decide_eq_true z26_)
      replace q4 := eq_true q4
      go_wp2
      go_ret
      exact ⟨by first | rfl | (simp; done) | (simp [*]; done), by repeat (first | exact Drawn0.refl _ | apply Drawn0.step)⟩
    ·rw [if_neg c3] at H
     exact absurd H (by simp)
   ·rw [if_neg c2] at H
    have c2b0 : decide (1 < (x0_1.size : Int)) = false := decide_eq_false c2
    have c2b1 : decide (1 < x0_1.size) = false := decide_eq_false (by omega)
    clear c2
    obtain rfl := Option.some.inj H
    go_wp2
    go_ret
    exact ⟨by first | rfl | (simp; done) | (simp [*]; done), by repeat (first | exact Drawn0.refl _ | apply Drawn0.step)⟩
def metrolabref01_column.j0 : Nat → Int → Option (Int × Int)
 | 0, _ => none
 | k + 1, x10 => if x10 > 9 then (some ((wrap64 ((wrap64 (48 + x10)) - 10)) % 256, 1)) else (if x10 < 0 then (some ((wrap64 ((wrap64 (48 + x10)) + 10)) % 256, 1)) else (some ((wrap64 (48 + x10)) % 256, 0)))
def metrolabref01_column.f (k : Nat) (a0 : Int) (a1 : Int) (a2 : Int) (a3 : Bool) : Option (Int × Int) := if a3 = true then (metrolabref01_column.j0 k (wrap64 ((((a0 - 48) % 256) + ((a1 - 48) % 256)) + a2))) else (metrolabref01_column.j0 k (wrap64 ((((a0 - 48) % 256) - ((a1 - 48) % 256)) - a2)))
set_option maxHeartbeats 8000000 in
set_option maxRecDepth 100000 in
theorem metrolabref01_column.calls (k : Nat) (a0 : Int) (a1 : Int) (a2 : Int) (a3 : Bool) (r1 : Int) (r2 : Int) (w : World) (h : metrolabref01_column.f k a0 a1 a2 a3 = some (r1, r2)) :
  Calls Tryz.prog 147 #[.int .u8 a0, .int .u8 a1, .int .i64 a2, .bool a3] w fun e w' => e = .returned (.tuple #[.int .u8 r1, .int .i64 r2]) ∧ Drawn0 w w' := by
 have H : (if a3 = true then (metrolabref01_column.j0 k (wrap64 ((((a0 - 48) % 256) + ((a1 - 48) % 256)) + a2))) else (metrolabref01_column.j0 k (wrap64 ((((a0 - 48) % 256) - ((a1 - 48) % 256)) - a2)))) = some (r1, r2) := h
 clear h
 have HC5 := Aside0.mk H
 clear H
 go_enter Tryz.func147, Tryz.ntmps147
 go_upto_if 20 with (fail)
 go_cut [10] (fun v10 wc => ∃ (kq : Nat) (x10_4 : Int), v10 = .int .i64 x10_4 ∧ Aside0 (metrolabref01_column.j0 kq x10_4 = some (r1, r2)) ∧ Aside0 (kq ≤ k) ∧ Drawn0 w wc)
 case first =>
  have H := HC5.out
  clear HC5
  by_cases c6 : a3 = true
  ·subst c6
   rw [if_pos rfl] at H
   have H' := Aside0.mk H
   clear H
   go_wp2
   go_meet
   case rel => exact ⟨_, (wrap64 ((((a0 - 48) % 256) + ((a1 - 48) % 256)) + a2)), z25_, H', ⟨by first | omega | exact Nat.le_refl _⟩, by repeat (first | exact Drawn0.refl _ | apply Drawn0.step)⟩
  ·replace c6 := Bool.eq_false_iff.mpr c6
   subst c6
   rw [if_neg (show ¬ (false = true) by decide)] at H
   have H' := Aside0.mk H
   clear H
   go_wp2
   go_meet
   case rel => exact ⟨_, (wrap64 ((((a0 - 48) % 256) - ((a1 - 48) % 256)) - a2)), z25_, H', ⟨by first | omega | exact Nat.le_refl _⟩, by repeat (first | exact Drawn0.refl _ | apply Drawn0.step)⟩
 case rest =>
  clear HC5
  try clear c1
  try clear p2
  try clear c6
  try clear p6
  obtain ⟨kq, x10_4, rfl, HA, HJ4, ⟨mc4, rfl⟩⟩ := hcut
  cases kq with
  | zero => exact absurd HA.out (by simp [metrolabref01_column.j0])
  | succ kj4 =>
   have H := HA.out
   clear HA
   simp only [metrolabref01_column.j0] at H
   by_cases c7 : x10_4 > 9
   ·rw [if_pos c7] at H
    have c7b0 : decide (9 < x10_4) = true := decide_eq_true c7
    clear c7
    simp only [Option.some.injEq, Prod.mk.injEq] at H
    obtain ⟨rfl, rfl⟩ := H
    go_wp2
    go_ret2
    exact ⟨by first | rfl | (simp; done) | (simp [*]; done), by repeat (first | exact Drawn0.refl _ | apply Drawn0.step)⟩
   ·rw [if_neg c7] at H
    have c7b0 : decide (9 < x10_4) = false := decide_eq_false c7
    clear c7
    by_cases c8 : x10_4 < 0
    ·rw [if_pos c8] at H
     have c8b0 : decide (x10_4 < 0) = true := decide_eq_true c8
     clear c8
     simp only [Option.some.injEq, Prod.mk.injEq] at H
     obtain ⟨rfl, rfl⟩ := H
     go_wp2
     go_ret2
     exact ⟨by first | rfl | (simp; done) | (simp [*]; done), by repeat (first | exact Drawn0.refl _ | apply Drawn0.step)⟩
    ·rw [if_neg c8] at H
     have c8b0 : decide (x10_4 < 0) = false := decide_eq_false c8
     clear c8
     simp only [Option.some.injEq, Prod.mk.injEq] at H
     obtain ⟨rfl, rfl⟩ := H
     go_wp2
     go_ret2
     exact ⟨by first | rfl | (simp; done) | (simp [*]; done), by repeat (first | exact Drawn0.refl _ | apply Drawn0.step)⟩
def metrolabref01_paper.l0 : Nat → ByteArray → ByteArray → Bool → List Int → Int → Int → Option (ByteArray)
 | 0, _, _, _, _, _, _ => none
 | k + 1, x0, x1, x2, x8, x9, x10 => if x10 ≥ 0 then (if 0 ≤ x10 then (if x10 < (x0.size : Int) then (if x10 < (x1.size : Int) then ((metrolabref01_column.f k (bt x0 x10) (bt x1 x10) x9 x2).bind fun bt124 => (if x10 < (x8.length : Int) then (metrolabref01_paper.l0 k x0 x1 x2 (x8.set (x10 : Int).toNat bt124.1) bt124.2 (wrap64 (x10 - 1))) else (none))) else (none)) else (none)) else (none)) else ((metrolabref01_bare.f k (strOfNums x8)).bind fun t127 => (some t127))
def metrolabref01_paper.f (k : Nat) (a0 : ByteArray) (a1 : ByteArray) (a2 : Bool) : Option (ByteArray) := (metrolabref01_wide.f a0 (wrap64 ((mx (a0.size : Int) (a1.size : Int)) + 1))).bind fun t119 => ((metrolabref01_wide.f a1 (wrap64 ((mx (a0.size : Int) (a1.size : Int)) + 1))).bind fun t120 => (if 0 ≤ (wrap64 ((mx (a0.size : Int) (a1.size : Int)) + 1)) then (if (wrap64 ((mx (a0.size : Int) (a1.size : Int)) + 1) : Int).toNat ≤ 281474976710656 then (metrolabref01_paper.l0 k t119 t120 a2 (List.replicate (wrap64 ((mx (a0.size : Int) (a1.size : Int)) + 1) : Int).toNat 0) 0 (wrap64 ((wrap64 ((mx (a0.size : Int) (a1.size : Int)) + 1)) - 1))) else (none)) else (none)))
def metrolabref01_paper.T8 : Bool × List (List Nat × List Nat) := (true, [([], []), ([], []), ([], []), ([], []), ([2, 3], [2, 3]), ([], []), ([], []), ([5, 6], [5, 6]), ([], []), ([], []), ([4, 7, 8, 9], [4, 7, 8, 9]), ([10], [10]), ([11], [11]), ([11], [11]), ([0, 1, 0, 1, 2, 3, 4, 5, 6, 7, 8, 9, 10, 11, 12], [0, 1]), ([14, 12, 10, 0, 1, 2, 3, 4, 5, 6, 7, 8, 9, 10, 11, 12], [12, 14]), ([13, 15, 0, 1, 2, 3, 4, 5, 6, 7, 8, 9, 10, 11, 12, 13, 14, 15], [8, 13])])
def metrolabref01_paper.B8 : List Nat := [0, 0, 0, 0, 12, 0, 0, 96, 0, 0, 1020, 2044, 4092, 4092, 8191, 24575, 65535]
theorem metrolabref01_paper.tab8 : rtab .any (opsOf Tryz.f117 8) = metrolabref01_paper.T8 := by kernel_rfl
theorem metrolabref01_paper.bits8 : waitsOk metrolabref01_paper.T8.2 metrolabref01_paper.B8 = true := by kernel_rfl
set_option maxHeartbeats 8000000 in
set_option maxRecDepth 100000 in
theorem metrolabref01_paper.calls (k : Nat) (a0 : ByteArray) (a1 : ByteArray) (a2 : Bool) (r : ByteArray) (w : World) (h : metrolabref01_paper.f k a0 a1 a2 = some r) :
  Calls Tryz.prog 117 #[.string a0, .string a1, .bool a2] w fun e w' => e = .returned (.string r) ∧ Below w.heap.size w w' := by
 have HB := Aside0.mk (Below.refl w.heap.size w)
 have H : ((metrolabref01_wide.f a0 (wrap64 ((mx (a0.size : Int) (a1.size : Int)) + 1))).bind fun t119 => ((metrolabref01_wide.f a1 (wrap64 ((mx (a0.size : Int) (a1.size : Int)) + 1))).bind fun t120 => (if 0 ≤ (wrap64 ((mx (a0.size : Int) (a1.size : Int)) + 1)) then (if (wrap64 ((mx (a0.size : Int) (a1.size : Int)) + 1) : Int).toNat ≤ 281474976710656 then (metrolabref01_paper.l0 k t119 t120 a2 (List.replicate (wrap64 ((mx (a0.size : Int) (a1.size : Int)) + 1) : Int).toNat 0) 0 (wrap64 ((wrap64 ((mx (a0.size : Int) (a1.size : Int)) + 1)) - 1))) else (none)) else (none)))) = some r := h
 clear h
 obtain ⟨ji4, hji4⟩ : ∃ j_ : Int, (mx (a0.size : Int) (a1.size : Int)) = j_ := ⟨_, rfl⟩
 replace H : ((metrolabref01_wide.f a0 (wrap64 ((ji4) + 1))).bind fun t119 => ((metrolabref01_wide.f a1 (wrap64 ((ji4) + 1))).bind fun t120 => (if 0 ≤ (wrap64 ((ji4) + 1)) then (if (wrap64 ((ji4) + 1) : Int).toNat ≤ 281474976710656 then (metrolabref01_paper.l0 k t119 t120 a2 (List.replicate (wrap64 ((ji4) + 1) : Int).toNat 0) 0 (wrap64 ((wrap64 ((ji4) + 1)) - 1))) else (none)) else (none)))) = some r := by first | (rw [hji4] at H; exact H) | (simp only [hji4] at H ⊢; exact H)
 (try (have hji4l : 0 ≤ ji4 := by (rw [← hji4]; unfold mx; (repeat' split) <;> omega)))
 (try (have hji4m : 0 ≤ ji4 := by omega))
 have hji4_ : (if (a0.size : Int) < (a1.size : Int) then (a1.size : Int) else (a0.size : Int)) = ji4 := hji4
 have hji4n : (if a0.size < a1.size then (a1.size : Int) else (a0.size : Int)) = ji4 := by rw [← hji4_]; simp only [Int.ofNat_lt]
 obtain ⟨t119, A5, H⟩ := bindA H
 obtain ⟨t120, A6, H⟩ := bindA H
 obtain ⟨ji7, hji7⟩ : ∃ j_ : Int, (wrap64 ((ji4) + 1)) = j_ := ⟨_, rfl⟩
 replace H : (if 0 ≤ (ji7) then (if (ji7 : Int).toNat ≤ 281474976710656 then (metrolabref01_paper.l0 k t119 t120 a2 (List.replicate (ji7 : Int).toNat 0) 0 (wrap64 ((ji7) - 1))) else (none)) else (none)) = some r := by first | (rw [hji7] at H; exact H) | (simp only [hji7] at H ⊢; exact H)
 (try rw [hji7] at A5)
 (try rw [hji7] at A6)
 have hji7w : (IntKind.i64.wrap ((ji4) + 1)) = ji7 := (i64_w _).trans hji7
 by_cases c8 : 0 ≤ (ji7)
 ·rw [if_pos c8] at H
  have c8b0 := eq_true c8
  have c8b1 : decide (0 ≤ (ji7)) = true := decide_eq_true c8
  clear c8
  by_cases c9 : (ji7 : Int).toNat ≤ 281474976710656
  ·rw [if_pos c9] at H
   have c9b0 := eq_true c9
   have c9b1 : decide ((ji7 : Int).toNat ≤ 281474976710656) = true := decide_eq_true c9
   clear c9
   obtain ⟨y121, hy121⟩ : ∃ y_ : List Int, y_ = (List.replicate (ji7 : Int).toNat 0) := ⟨_, rfl⟩
   replace H : (metrolabref01_paper.l0 k t119 t120 a2 y121 0 (wrap64 ((ji7) - 1))) = some r := by first | (rw [hy121]; with_reducible exact H) | (have H2_ := (Option.bind_some _ _).symm.trans H; rw [hy121]; with_reducible exact H2_) | (have H2_ := (Option.bind_some _ _).symm.trans H; with_reducible exact H2_) | with_reducible exact H | (rw [hy121]; exact H) | exact H
   have Ny121 := Aside0.mk hy121
   clear hy121
   have H' := Aside0.mk H
   clear H
   go_enter Tryz.func117, Tryz.ntmps117
   go_wp2_with (first | ((with_reducible refine gate_callee (f := 146) rfl ?_); refine goesL_ (some 19) rfl rfl Tryz.func146 (by kernel_rfl) rfl #[.string a0, .int .i64 ji7] rfl (by (try simp only [List.map_toArray, List.map_cons, List.map_nil]); first | done | (simp only [hji7]; rfl) | rfl | (simp only [List.length_drop, List.length_take]; rfl)) ?_; (with_reducible refine (metrolabref01_wide.calls a0 ji7 t119 _ A5.out).mono ?_); rintro e w10 ⟨rfl, hb⟩; refine ⟨_, rfl, ?_⟩; replace HB := Aside0.mk (below_step z10_ hb); clear hb) | ((with_reducible refine gate_callee (f := 146) rfl ?_); refine goesL_ (some 22) rfl rfl Tryz.func146 (by kernel_rfl) rfl #[.string a1, .int .i64 ji7] rfl (by (try simp only [List.map_toArray, List.map_cons, List.map_nil]); first | done | (simp only [hji7]; rfl) | rfl | (simp only [List.length_drop, List.length_take]; rfl)) ?_; (with_reducible refine (metrolabref01_wide.calls a1 ji7 t120 _ A6.out).mono ?_); rintro e w11 ⟨rfl, hb⟩; refine ⟨_, rfl, ?_⟩; replace HB := Aside0.mk (below_step z10_ hb); clear hb) | ((with_reducible refine gate_dst (N := 24) rfl ?_); refine Kd.R_make (Kd.int .u8) _ 5 rfl (N := 24) rfl 161 _ _ rfl ji7 rfl rfl Tryz.underlying161 (.int .u8 0) 1 info5 rfl (by decide) (by omega) 0 (ok := fun _ => True) (okp := fun _ => True) rfl (fun _ hk => hk) trivial (of_decide_eq_true z26_) (Nat.le_trans (Nat.mul_le_mul_right _ (of_decide_eq_true z26_ : ji7.toNat ≤ 281474976710656)) (by omega)) (Below.refl _ _) (Nat.le_refl _) ?_; intro v122 w12 ho13 hb hg_ hnew_; clear hg_ hnew_; (first | rw [← Ny121.out] at ho13 | (simp only [Int.reduceToNat] at ho13; rw [← Ny121.out] at ho13)); have n0_ := Aside0.mk (Kd.R_lower ho13 (below_size z10_)); have n1_ := Aside0.mk (below_step z10_ hb); clear HB; have HO123 := n0_; have HB := n1_; clear n0_ n1_; clear hb ho13))
   go_loopg [9, 10] k (fun kq v9 v10 w' => ∃ (x8_1 : List Int) (x9_1 : Int) (x10_1 : Int), v9 = .int .i64 x9_1 ∧ v10 = .int .i64 x10_1 ∧ Aside0 (metrolabref01_paper.l0 kq t119 t120 a2 x8_1 x9_1 x10_1 = some r) ∧ Aside0 (kq ≤ k) ∧ Aside0 (Kd.R (Kd.int .u8) 5 w' w.heap.size (fun _ => True) v122 x8_1) ∧ Aside0 (Below w.heap.size w w'))
   case atStart => exact ⟨(y121), (0), (wrap64 ((ji7) - 1)), z25_, (by first | rfl | (simp; done) | (simp only [← hji7] <;> (first | rfl | simp)) | (simp [*]; done)), H', ⟨Nat.le_refl _⟩, ⟨by (with_reducible repeat (first | apply Kd.R_alloc | apply Kd.R_drewN | apply Kd.R_drew)); first | exact HO123.out | (simp only [w64_m256]; exact HO123.out)⟩, ⟨by repeat (first | (with_reducible first | exact HB.out | apply below_alloc | apply pw_below_drewN | apply below_drew1) | exact HB.out)⟩⟩
   case round =>
    clear H'
    try clear c1
    try clear p2
    try clear p6
    try clear c8
    try clear c8b0
    try clear c8b1
    try clear c9
    try clear c9b0
    try clear c9b1
    try clear c11
    obtain ⟨x8_1, x9_1, x10_1, rfl, rfl, HA, HK1, HO_8, HB⟩ := hrel
    cases gk with
    | zero => exact absurd HA.out (by simp [metrolabref01_paper.l0])
    | succ k1 =>
     have H := HA.out
     clear HA
     simp only [metrolabref01_paper.l0] at H
     by_cases c14 : x10_1 ≥ 0
     ·rw [if_pos c14] at H
      have c14b0 : decide (0 ≤ x10_1) = true := decide_eq_true c14
      clear c14
      by_cases c15 : 0 ≤ x10_1
      ·rw [if_pos c15] at H
       have c15b0 : decide (0 ≤ x10_1) = true := decide_eq_true c15
       clear c15
       by_cases c16 : x10_1 < (t119.size : Int)
       ·rw [if_pos c16] at H
        have c16b0 : decide (x10_1 < (t119.size : Int)) = true := decide_eq_true c16
        clear c16
        by_cases c18 : x10_1 < (t120.size : Int)
        ·rw [if_pos c18] at H
         have c18b0 : decide (x10_1 < (t120.size : Int)) = true := decide_eq_true c18
         clear c18
         obtain ⟨⟨t124, t125⟩, A20, H⟩ := bindA H
         dsimp only at H
         by_cases c21 : x10_1 < (x8_1.length : Int)
         ·rw [if_pos c21] at H
          have c21b0 : decide (x10_1 < (x8_1.length : Int)) = true := decide_eq_true c21
          clear c21
          obtain ⟨y126, hy126⟩ : ∃ y_ : List Int, y_ = (x8_1.set (x10_1 : Int).toNat t124) := ⟨_, rfl⟩
          replace H : (metrolabref01_paper.l0 k1 t119 t120 a2 y126 t125 (wrap64 (x10_1 - 1))) = some r := by first | (rw [hy126]; with_reducible exact H) | (have H2_ := (Option.bind_some _ _).symm.trans H; rw [hy126]; with_reducible exact H2_) | (have H2_ := (Option.bind_some _ _).symm.trans H; with_reducible exact H2_) | with_reducible exact H | (rw [hy126]; exact H) | exact H
          have Ny126 := Aside0.mk hy126
          clear hy126
          have H' := Aside0.mk H
          clear H
          try go_wp2
          have n0_ := Aside0.mk (Kd.R_drew HO_8.out)
          have n1_ := Aside0.mk (below_drew1 HB.out)
          clear HO_8
          clear HB
          have HO_8 := n0_
          have HB := n1_
          clear n0_ n1_
          have p17 : 0 ≤ (x10_1 : Int) := of_decide_eq_true z26_
          have q17 : x10_1 < (t119.size : Int) := of_decide_eq_true z26_
          have hx17 := bt_at t119 x10_1
          replace p17 := eq_true p17
          replace q17 := eq_true q17
          have p19 : 0 ≤ (x10_1 : Int) := of_decide_eq_true z26_
          have q19 : x10_1 < (t120.size : Int) := of_decide_eq_true z26_
          have hx19 := bt_at t120 x10_1
          replace p19 := eq_true p19
          replace q19 := eq_true q19
          refine start_ (n := 17) (S := fun w' => True) (ds := [15]) #[false, false, false, false, false, false, false, false, false, false, false, false, false, false, false, false, false] (by kernel_rfl) rfl rfl trivial (fun hHeld => ?_); refine with_tabW metrolabref01_paper.tab8 metrolabref01_paper.bits8 (fun HT_ HW_ => ?_)
          generalize wr.drew = w23 at HO_8 HB hHeld ⊢
          refine pure_ (i := 0) (N := some 32) (v := ?_) (a' := ?_) #[true, false, false, false, false, false, false, false, false, false, false, false, false, false, false, false, false] rfl rfl (any_of HT_.out (by kernel_rfl)) (fun _ _ _ h => h) (Or.inl ⟨by rfl, ?_⟩) ?_ ?_
          rotate_left
          ·intro w'
           go_simp
           with_reducible rfl
          rotate_left
          ·simp only [Act.put, List.setIfInBounds_toArray, List.set_cons_zero, List.set_cons_succ, i64_w, i32_w]
           rfl
          refine pure_ (i := 1) (N := some 33) (v := ?_) (a' := ?_) #[true, true, false, false, false, false, false, false, false, false, false, false, false, false, false, false, false] rfl rfl (any_of HT_.out (by kernel_rfl)) (fun _ _ _ h => h) (Or.inl ⟨by rfl, ?_⟩) ?_ ?_
          rotate_left
          ·intro w'
           go_simp
           with_reducible rfl
          rotate_left
          ·simp only [Act.put, List.setIfInBounds_toArray, List.set_cons_zero, List.set_cons_succ, i64_w, i32_w]
           rfl
          refine pure_ (i := 2) (N := some 34) (v := ?_) (a' := ?_) #[true, true, true, false, false, false, false, false, false, false, false, false, false, false, false, false, false] rfl rfl (any_of HT_.out (by kernel_rfl)) (fun _ _ _ h => h) (Or.inl ⟨by rfl, ?_⟩) ?_ ?_
          rotate_left
          ·intro w'
           go_simp
           with_reducible rfl
          rotate_left
          ·simp only [Act.put, List.setIfInBounds_toArray, List.set_cons_zero, List.set_cons_succ, i64_w, i32_w]
           rfl
          refine pure_ (i := 3) (N := some 35) (v := ?_) (a' := ?_) #[true, true, true, true, false, false, false, false, false, false, false, false, false, false, false, false, false] rfl rfl (any_of HT_.out (by kernel_rfl)) (fun _ _ _ h => h) (Or.inl ⟨by rfl, ?_⟩) ?_ ?_
          rotate_left
          ·intro w'
           go_simp
           with_reducible rfl
          rotate_left
          ·simp only [Act.put, List.setIfInBounds_toArray, List.set_cons_zero, List.set_cons_succ, i64_w, i32_w]
           rfl
          refine pure_ (i := 5) (N := some 37) (v := ?_) (a' := ?_) #[true, true, true, true, false, true, false, false, false, false, false, false, false, false, false, false, false] rfl rfl (any_of HT_.out (by kernel_rfl)) (fun _ _ _ h => h) (Or.inl ⟨by rfl, ?_⟩) ?_ ?_
          rotate_left
          ·intro w'
           go_simp
           with_reducible rfl
          rotate_left
          ·simp only [Act.put, List.setIfInBounds_toArray, List.set_cons_zero, List.set_cons_succ, i64_w, i32_w]
           rfl
          refine pure_ (i := 6) (N := some 38) (v := ?_) (a' := ?_) #[true, true, true, true, false, true, true, false, false, false, false, false, false, false, false, false, false] rfl rfl (any_of HT_.out (by kernel_rfl)) (fun _ _ _ h => h) (Or.inl ⟨by rfl, ?_⟩) ?_ ?_
          rotate_left
          ·intro w'
           go_simp
           with_reducible rfl
          rotate_left
          ·simp only [Act.put, List.setIfInBounds_toArray, List.set_cons_zero, List.set_cons_succ, i64_w, i32_w]
           rfl
          refine pure_ (i := 8) (N := some 40) (v := ?_) (a' := ?_) #[true, true, true, true, false, true, true, false, true, false, false, false, false, false, false, false, false] rfl rfl (any_of HT_.out (by kernel_rfl)) (fun _ _ _ h => h) (Or.inl ⟨by rfl, ?_⟩) ?_ ?_
          rotate_left
          ·intro w'
           go_simp
           with_reducible rfl
          rotate_left
          ·simp only [Act.put, List.setIfInBounds_toArray, List.set_cons_zero, List.set_cons_succ, i64_w, i32_w]
           rfl
          refine pure_ (i := 9) (N := some 41) (v := ?_) (a' := ?_) #[true, true, true, true, false, true, true, false, true, true, false, false, false, false, false, false, false] rfl rfl (any_of HT_.out (by kernel_rfl)) (fun _ _ _ h => h) (Or.inl ⟨by rfl, ?_⟩) ?_ ?_
          rotate_left
          ·intro w'
           go_simp
           with_reducible rfl
          rotate_left
          ·simp only [Act.put, List.setIfInBounds_toArray, List.set_cons_zero, List.set_cons_succ, i64_w, i32_w]
           rfl
          refine take_ (i := 4) (N := some 36) (v := ?_) (a' := ?_) #[true, true, true, true, true, true, true, false, true, true, false, false, false, false, false, false, false] rfl rfl (take_ofW HT_.out HW_.out (by kernel_rfl)) (fun _ _ _ h => h) (Or.inl ⟨by rfl, ?_⟩) hHeld ?_ ?_
          rotate_left
          ·intro w' _
           go_simp
           with_reducible rfl
          rotate_left
          ·simp only [Act.put, List.setIfInBounds_toArray, List.set_cons_zero, List.set_cons_succ, i64_w, i32_w]
           rfl
          refine take_ (i := 7) (N := some 39) (v := ?_) (a' := ?_) #[true, true, true, true, true, true, true, true, true, true, false, false, false, false, false, false, false] rfl rfl (take_ofW HT_.out HW_.out (by kernel_rfl)) (fun _ _ _ h => h) (Or.inl ⟨by rfl, ?_⟩) hHeld ?_ ?_
          rotate_left
          ·intro w' _
           go_simp
           with_reducible rfl
          rotate_left
          ·simp only [Act.put, List.setIfInBounds_toArray, List.set_cons_zero, List.set_cons_succ, i64_w, i32_w]
           rfl
          refine one_ (i := 10) (N := some 42) #[true, true, true, true, true, true, true, true, true, true, true, false, false, false, false, false, false] rfl rfl (one_of HT_.out (by kernel_rfl)) (by decide) (fun K hK => ?_)
          refine goes_ Tryz.func147 (by kernel_rfl) rfl #[.int .u8 (bt t119 x10_1), .int .u8 (bt t120 x10_1), .int .i64 x9_1, .bool a2] (by rfl) rfl rfl z9_ ?_
          with_reducible refine (metrolabref01_column.calls k1 (bt t119 x10_1) (bt t120 x10_1) x9_1 a2 t124 t125 _ A20.out).mono ?_
          rintro e w' ⟨rfl, ⟨nd, rfl⟩⟩
          refine ⟨_, rfl, ?_⟩
          have p22 : 0 ≤ (x10_1 : Int) := of_decide_eq_true z26_
          have q22 : (x10_1 : Int) < ((x8_1.length : Int) : Int) := of_decide_eq_true z26_
          obtain ⟨go22, co22, eo22, gb22, gl22, cl22, HG22⟩ := Kd.R_form HO_8.out (by omega)
          (first | cases eo22 | (injection eo22 with ea_ en_ ec_; (first | subst ea_ | (injection ea_ with ea_; subst ea_)); subst ec_; clear en_))
          have GB22 := Aside0.mk gb22
          have GG22 := Aside0.mk HG22
          clear gb22 gl22 HG22
          obtain ⟨hx22_0, hf22_0⟩ := Kd.R_celln 0 HO_8.out (x10_1 : Int) p22 q22
          replace p22 := eq_true p22
          replace q22 := eq_true q22
          have HP24 := Kd.R_putn HO_8.out (x10_1 : Int) t124
          rw [← Ny126.out] at HP24
          have HQ24 := Aside0.mk HP24
          clear HP24
          refine hK.out _ _ trivial (fun hHeld => ?_)
          clear hK K
          refine norm_ (a' := ?_) ?_ ?_
          rotate_left
          ·show Act.put _ (some 42) _ = _
           simp only [Act.put, List.setIfInBounds_toArray, List.set_cons_zero, List.set_cons_succ, i64_w, i32_w]
           rfl
          refine pure_ (i := 11) (N := some 31) (v := ?_) (a' := ?_) #[true, true, true, true, true, true, true, true, true, true, true, true, false, false, false, false, false] rfl rfl (any_of HT_.out (by kernel_rfl)) (fun _ _ _ h => h) (Or.inl ⟨by rfl, ?_⟩) ?_ ?_
          rotate_left
          ·intro w'
           go_simp
           with_reducible rfl
          rotate_left
          ·simp only [Act.put, List.setIfInBounds_toArray, List.set_cons_zero, List.set_cons_succ, i64_w, i32_w]
           rfl
          refine pure_ (i := 12) (N := some 43) (v := ?_) (a' := ?_) #[true, true, true, true, true, true, true, true, true, true, true, true, true, false, false, false, false] rfl rfl (any_of HT_.out (by kernel_rfl)) (fun _ _ _ h => h) (Or.inl ⟨by rfl, ?_⟩) ?_ ?_
          rotate_left
          ·intro w'
           go_simp
           with_reducible rfl
          rotate_left
          ·simp only [Act.put, List.setIfInBounds_toArray, List.set_cons_zero, List.set_cons_succ, i64_w, i32_w]
           rfl
          refine pure_ (i := 13) (N := some 44) (v := ?_) (a' := ?_) #[true, true, true, true, true, true, true, true, true, true, true, true, true, true, false, false, false] rfl rfl (any_of HT_.out (by kernel_rfl)) (fun _ _ _ h => h) (Or.inl ⟨by rfl, ?_⟩) ?_ ?_
          rotate_left
          ·intro w'
           go_simp
           with_reducible rfl
          rotate_left
          ·simp only [Act.put, List.setIfInBounds_toArray, List.set_cons_zero, List.set_cons_succ, i64_w, i32_w]
           rfl
          refine pure_ (i := 14) (N := some 45) (v := ?_) (a' := ?_) #[true, true, true, true, true, true, true, true, true, true, true, true, true, true, true, false, false] rfl rfl (any_of HT_.out (by kernel_rfl)) (fun _ _ _ h => h) (Or.inl ⟨by rfl, ?_⟩) ?_ ?_
          rotate_left
          ·intro w'
           go_simp
           with_reducible rfl
          rotate_left
          ·simp only [Act.put, List.setIfInBounds_toArray, List.set_cons_zero, List.set_cons_succ, i64_w, i32_w]
           rfl
          refine last_ (i := 15) (N := none) #[true, true, true, true, true, true, true, true, true, true, true, true, true, true, true, true, false] rfl rfl (one_of HT_.out (by kernel_rfl)) (by decide) (fun K hK => ?_)
          refine skip_ (w1 := ?_) (by rfl) rfl ?_ ?_
          rotate_left
          ·go_simp
           rfl
          refine hK.out _ _ ?_
          clear hK K
          refine pure_ (i := 16) (N := some 9) (v := ?_) (a' := ?_) #[true, true, true, true, true, true, true, true, true, true, true, true, true, true, true, true, true] rfl rfl (any_of HT_.out (by kernel_rfl)) (fun _ _ _ h => h) (Or.inl ⟨by rfl, ?_⟩) ?_ ?_
          rotate_left
          ·intro w'
           go_simp
           with_reducible rfl
          rotate_left
          ·simp only [Act.put, List.setIfInBounds_toArray, List.set_cons_zero, List.set_cons_succ, i64_w, i32_w]
           rfl
          refine done_ (done_of HT_.out (by kernel_rfl)) ?_
          try go_wp2
          go_roundg k1
          case measure => have := HK1.out; omega
          case rel => exact ⟨(y126), (t125), (wrap64 (x10_1 - 1)), z25_, z25_, H', ⟨by have := HK1.out; omega⟩, ⟨by (with_reducible repeat (first | apply Kd.R_alloc | apply Kd.R_drewN | apply Kd.R_drew)); first | exact HQ24.out | (simp only [w64_m256]; exact HQ24.out)⟩, ⟨by repeat (first | (with_reducible first | exact HB.out | apply below_alloc | apply pw_below_drewN | apply below_drew1 | refine Go.Proofs.YtkdpcgmnkifbbaaGreatDoorW.PrintWords.below_set ?_ GB22.out) | exact HB.out)⟩⟩
         ·rw [if_neg c21] at H
          exact absurd H (by simp)
        ·rw [if_neg c18] at H
         exact absurd H (by simp)
       ·rw [if_neg c16] at H
        exact absurd H (by simp)
      ·rw [if_neg c15] at H
       exact absurd H (by simp)
     ·rw [if_neg c14] at H
      have c14b0 : decide (0 ≤ x10_1) = false := decide_eq_false c14
      clear c14
      obtain ⟨t127, A25, H⟩ := bindA H
      obtain rfl := Option.some.inj H
      have hcv26 := own_string (P := Tryz.prog) Tryz.underlying161 Tryz.underlying5 Tryz.underlying9 (Kd.own_of_R HO_8.out)
      go_wp2_with (first | (refine gz (f := 141) rfl (some 48) rfl Tryz.func141 (metrolabref01_bare.calls k1 (strOfNums x8_1) t127 _ A25.out) ?_; rintro w' ⟨nd, rfl⟩))
      go_ret
      exact ⟨by first | rfl | (simp [errW_none, errW_some] <;> rfl) | (simp only [← hji4, ← hji7]; first | rfl | (simp [errW_none, errW_some] <;> rfl)) | (simp [*, errW_none, errW_some] <;> rfl), z10_⟩
  ·rw [if_neg c9] at H
   exact absurd H (by simp)
 ·rw [if_neg c8] at H
  exact absurd H (by simp)
def metrolabref01_less.f (a0 : ByteArray) (a1 : ByteArray) : Option (Bool) := if (a0.size : Int) < (a1.size : Int) then (some true) else (if (a0.size : Int) = (a1.size : Int) then (some (Op.bytesLess a0.toList a1.toList)) else (some false))
set_option maxHeartbeats 8000000 in
set_option maxRecDepth 100000 in
theorem metrolabref01_less.calls (a0 : ByteArray) (a1 : ByteArray) (r : Bool) (w : World) (h : metrolabref01_less.f a0 a1 = some r) :
  Calls Tryz.prog 118 #[.string a0, .string a1] w fun e w' => e = .returned (.bool r) ∧ Drawn0 w w' := by
 have H : (if (a0.size : Int) < (a1.size : Int) then (some true) else (if (a0.size : Int) = (a1.size : Int) then (some (Op.bytesLess a0.toList a1.toList)) else (some false))) = some r := h
 clear h
 by_cases c3 : (a0.size : Int) < (a1.size : Int)
 ·rw [if_pos c3] at H
  have c3b0 : decide ((a0.size : Int) < (a1.size : Int)) = true := decide_eq_true c3
  have c3b1 : decide (a0.size < a1.size) = true := decide_eq_true (Int.ofNat_lt.mp c3)
  clear c3
  obtain rfl := Option.some.inj H
  go_enter Tryz.func118, Tryz.ntmps118
  go_wp2
  go_ret
  exact ⟨by first | rfl | (simp; done) | (simp [*]; done), by repeat (first | exact Drawn0.refl _ | apply Drawn0.step)⟩
 ·rw [if_neg c3] at H
  have c3b0 : decide ((a0.size : Int) < (a1.size : Int)) = false := decide_eq_false c3
  have c3b1 : decide (a0.size < a1.size) = false := decide_eq_false (fun h => c3 (Int.ofNat_lt.mpr h))
  clear c3
  by_cases c4 : (a0.size : Int) = (a1.size : Int)
  ·rw [if_pos c4] at H
   have c4b0 := beq_iff_eq.mpr c4
   have c4b1 := bne_eq_false_iff_eq.mpr c4
   have c4b2 : (a0.size == a1.size) = true := by first | simpa using c4 | (simp at c4 ⊢; omega)
   clear c4
   obtain rfl := Option.some.inj H
   go_enter Tryz.func118, Tryz.ntmps118
   go_wp2
   go_ret
   exact ⟨by first | rfl | (simp; done) | (simp [*]; done), by repeat (first | exact Drawn0.refl _ | apply Drawn0.step)⟩
  ·rw [if_neg c4] at H
   have c4b0 := beq_eq_false_iff_ne.mpr c4
   have c4b1 := bne_iff_ne.mpr c4
   have c4b2 : (a0.size == a1.size) = false := by first | simpa using c4 | (simp at c4 ⊢; omega)
   obtain rfl := Option.some.inj H
   go_enter Tryz.func118, Tryz.ntmps118
   go_wp2
   go_ret
   exact ⟨by first | rfl | (simp; done) | (simp [*]; done), by repeat (first | exact Drawn0.refl _ | apply Drawn0.step)⟩
end Go.Proofs.YtkdpcgmnkifbbaaGreatDoor.R
end
