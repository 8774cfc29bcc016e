/- Joined by a program of this session out of its texts, with only what the last theorem needs: Ws CO Cx1 Ce Rd Tx. No conditions but those stated. -/
import Derived.Test.YtkdpcgmnkifbbaaGreatDoorZM11
import Derived.Test.YtkdpcgmnkifbbaaGreatDoorZM07
import Derived.Shelf.Strings.BuilderK
import Derived.Lib.ConvBytes
import Derived.Test.YtkdpcgmnkifbbaaGreatDoorZM02
import Derived.Test.YtkdpcgmnkifbbaaGreatDoorZM05
import Derived.Lib.AppendIntMem
import Derived.Test.YtkdpcgmnkifbbaaGreatDoorZM03
import Derived.IntWalk
import Derived.Lib.AtoiErrMem
import Derived.Deep.RegionWith
import Derived.Lib.ItoaLen
set_option linter.unusedVariables false
set_option linter.unusedSimpArgs false
namespace Go.Proofs.YtkdpcgmnkifbbaaGreatDoorW.PrintLast
end Go.Proofs.YtkdpcgmnkifbbaaGreatDoorW.PrintLast
namespace Go.Proofs.YtkdpcgmnkifbbaaGreatDoorW.PrintMore
end Go.Proofs.YtkdpcgmnkifbbaaGreatDoorW.PrintMore
namespace Go.Proofs.YtkdpcgmnkifbbaaGreatDoorW.PrintWords
end Go.Proofs.YtkdpcgmnkifbbaaGreatDoorW.PrintWords
section
namespace Go.Proofs.YtkdpcgmnkifbbaaGreatDoor
open Go.RowKit
theorem byteInfo : (Tryz.prog.info? 5).map (fun i => (i.zero, i.size, i.bytes)) = some (some (.int .u8 0), 1, 1) := by kernel_rfl
set_option maxHeartbeats 1000000 in
set_option maxRecDepth 100000 in
theorem copyCheck_used (b : Nat) (w : World) (h0 : w.cell? ⟨b, 0, none⟩ = some (.pointer (some ⟨b, 0, none⟩))) :
  Calls Tryz.prog 158 #[.pointer (some ⟨b, 0, none⟩)] w fun e w' => e = .returned (.tuple #[]) ∧ w' = w := by
 obtain ⟨j, hj, _⟩ := Option.map_eq_some_iff.1 (show (Tryz.prog.info? 163).map (·.size) = some 2 by kernel_rfl)
 go_enter Tryz.func158, Tryz.ntmps158
 go_wp2
 rw [Lib.run_neq_ptr_same w _ Tryz.underlying160 hj]
 go_wp2
 go_end0
 exact ⟨rfl, rfl⟩
set_option maxHeartbeats 1000000 in
set_option maxRecDepth 100000 in
theorem copyCheck_fresh (b : Nat) (w : World) (h0 : w.cell? ⟨b, 0, none⟩ = some (.pointer none)) (hsh : w.shape? b = some (163, 2)) (hfz : w.frozen? ⟨b, 0, none⟩ = false) :
  Calls Tryz.prog 158 #[.pointer (some ⟨b, 0, none⟩)] w fun e w' => e = .returned (.tuple #[]) ∧ w' = w.setCell ⟨b, 0, none⟩ (.pointer (some ⟨b, 0, none⟩)) := by
 obtain ⟨j, hj, hjs⟩ := Option.map_eq_some_iff.1 (show (Tryz.prog.info? 163).map (·.size) = some 2 by kernel_rfl)
 go_enter Tryz.func158, Tryz.ntmps158
 go_wp2
 rw [Lib.run_to_unsafe w ⟨b, 0, none⟩ Tryz.underlying160 Tryz.underlying185 hj (by rw [hjs]; decide) hsh (Nat.zero_lt_succ 1)]
 simp only [Result.andThen]
 rw [Oper.upon_value]
 go_wp2
 rw [run_callFunc_extern Tryz.func170 (by kernel_rfl) (by kernel_rfl) (by kernel_rfl) (e := Extern.AbiNoEscape.same) (by kernel_rfl)]
 rw [Lib.run_noEscape]
 simp only [Result.andThen]
 rw [Oper.upon_value]
 go_wp2
 rw [Lib.run_from_unsafe w ⟨b, 0, none⟩ Tryz.underlying185 Tryz.underlying160 hj hsh (by kernel_rfl)]
 simp only [Result.andThen]
 rw [Oper.upon_value]
 go_wp2
 go_end0
 exact ⟨rfl, rfl⟩
theorem copyCheck_k (B b : Nat) (bs : List Value) (w : World) (h : Lib.IsBuilderF 163 5 B b bs w) :
  Calls Tryz.prog 158 #[.pointer (some ⟨b, 0, none⟩)] w fun e w' => e = .returned (.tuple #[]) ∧ (Lib.BuilderAtF 163 5 B b (.pointer (some ⟨b, 0, none⟩)) bs w' ∧ Below B w w') := by
 rcases h with h | h
 ·refine (copyCheck_fresh b w h.cell0 h.shape h.frozen0).mono ?_
  rintro e w' ⟨rfl, rfl⟩
  exact ⟨rfl, h.used _, (Below.refl B w).setCell (p := ⟨b, 0, none⟩) h.1 _⟩
 ·refine (copyCheck_used b w h.cell0).mono ?_
  rintro e w' ⟨rfl, rfl⟩
  exact ⟨rfl, h, Below.refl B _⟩
set_option maxHeartbeats 2000000 in
set_option maxRecDepth 100000 in
theorem writeByte_k (B b : Nat) (bs : List Value) (c : Int) (w : World) (h : Lib.IsBuilderF 163 5 B b bs w) (hlen : bs.length + 1 ≤ 140737488355328) (hBw : B ≤ w.heap.size) :
  Calls Tryz.prog 136 #[.pointer (some ⟨b, 0, none⟩), .int .u8 c] w fun e w' => e = .returned .nilIface ∧ (Lib.BuilderAtF 163 5 B b (.pointer (some ⟨b, 0, none⟩)) (bs ++ [.int .u8 c]) w' ∧ Below B w w') := by
 obtain ⟨i0, hi, hz0, hz1, hz2⟩ := info_parts byteInfo
 go_enter Tryz.func136, Tryz.ntmps136
 go_wp2_with (go_at_call 158; refine (copyCheck_k B b bs _ h).mono ?_)
 rintro e w1 ⟨rfl, h1, hb1⟩
 obtain ⟨hB, v, hbk, hown, hne⟩ := h1
 have c0 : w1.cell? ⟨b, 0, none⟩ = some (.pointer (some ⟨b, 0, none⟩)) := by rw [Lib.cell_of_heap hbk]; rfl
 have c1 : w1.cell? ⟨b, 1, none⟩ = some v := by rw [Lib.cell_of_heap hbk]; rfl
 go_wp2_with (at_builtin; refine wpList_append_ownF _ rfl _ _ 161 rfl B 5 i0 (.int .u8 0) 1 1 Tryz.underlying161 hi hz0 hz1 hz2 rfl (by decide) _ _ _ rfl (hown.alloc _) ⟨w1.heap.size, 0, none⟩ 1 1 [.int .u8 c] rfl rfl ?c1 ?c2 ?c3 ?c4 ?c5 ?_)
 case c1 =>
  intro j u hj
  match j, hj with
  | 0, hj => simp at hj; subst hj; simp [Addr.add]
 case c2 => intro u hu; simp at hu; subst hu; rfl
 case c3 => unfold maxLen; omega
 case c4 => omega
 case c5 => have := hb1.size; simp; omega
 intro v' w2 hown' hgrow _
 have hlt : b < w1.heap.size := by
  rcases Nat.lt_or_ge b w1.heap.size with h' | h'
  ·exact h'
  ·simp [Array.getElem?_eq_none h'] at hbk
 have hb2 : w2.heap[b]? = some (.cells #[.pointer (some ⟨b, 0, none⟩), v] 163 (0, 0)) := by
  rw [hgrow.block b (by simp; omega) (fun e => hne e.symm), Lib.alloc_old w1 _ b hlt]
  exact hbk
 have d0 : w2.cell? ⟨b, 0, none⟩ = some (.pointer (some ⟨b, 0, none⟩)) := by rw [Lib.cell_of_heap hb2]; rfl
 have d1 : w2.cell? ⟨b, 1, none⟩ = some v := by rw [Lib.cell_of_heap hb2]; rfl
 have f1 : w2.frozen? ⟨b, 1, none⟩ = false := Lib.frozen_of_heap hb2 1
 obtain ⟨g, cap, rfl⟩ : ∃ g cap, v' = .slice (some ⟨g, 0, none⟩) (bs.length + 1) cap := by
  rcases hown'.2 with ⟨_, h0⟩ | ⟨g, cap, cur, fz, hv, _⟩
  ·omega
  ·exact ⟨g, cap, hv⟩
 go_wp2
 go_ret
 refine ⟨rfl, ?_, ?_⟩
 ·exact Lib.BuilderAtF.put (T := 163) (e := 5) hB hb2 (bs' := bs ++ [.int .u8 c]) (by simpa using hown') (by decide)
 ·exact ((hb1.alloc (by have := hb1.size; omega) _).grown hgrow (by have := hb1.size; simp; omega) (fun k hk => (hown.lt k hk).1)).setCell (p := ⟨b, 1, none⟩) hB _
set_option maxHeartbeats 2000000 in
set_option maxRecDepth 100000 in
theorem writeString_k (B b : Nat) (bs : List Value) (s : ByteArray) (w : World) (h : Lib.IsBuilderF 163 5 B b bs w) (hlen : bs.length + s.size ≤ 140737488355328) (hBw : B ≤ w.heap.size) :
  Calls Tryz.prog 137 #[.pointer (some ⟨b, 0, none⟩), .string s] w fun e w' => e = .returned (.tuple #[.int .i64 s.size, .nilIface]) ∧ (Lib.BuilderAtF 163 5 B b (.pointer (some ⟨b, 0, none⟩)) (bs ++ Lib.strCells s) w' ∧ Below B w w') := by
 obtain ⟨i0, hi, hz0, hz1, hz2⟩ := info_parts byteInfo
 go_enter Tryz.func137, Tryz.ntmps137
 go_wp2_with (go_at_call 158; refine (copyCheck_k B b bs _ h).mono ?_)
 rintro e w1 ⟨rfl, h1, hb1⟩
 obtain ⟨hB, v, hbk, hown, hne⟩ := h1
 have c0 : w1.cell? ⟨b, 0, none⟩ = some (.pointer (some ⟨b, 0, none⟩)) := by rw [Lib.cell_of_heap hbk]; rfl
 have c1 : w1.cell? ⟨b, 1, none⟩ = some v := by rw [Lib.cell_of_heap hbk]; rfl
 go_wp2_with (at_builtin; refine Lib.wpList_append_own_stringF _ rfl _ _ 161 9 rfl B 5 i0 Tryz.underlying161 Tryz.underlying9 hi hz0 hz1 hz2 _ _ _ rfl hown s rfl ?c3 ?c4 ?c5 ?_)
 case c3 => unfold maxLen; omega
 case c4 => omega
 case c5 => have := hb1.size; omega
 intro v' w2 hown' hgrow _
 have hlt : b < w1.heap.size := by
  rcases Nat.lt_or_ge b w1.heap.size with h' | h'
  ·exact h'
  ·simp [Array.getElem?_eq_none h'] at hbk
 have hb2 : w2.heap[b]? = some (.cells #[.pointer (some ⟨b, 0, none⟩), v] 163 (0, 0)) := by
  rw [hgrow.block b hlt (fun e => hne e.symm)]
  exact hbk
 have d0 : w2.cell? ⟨b, 0, none⟩ = some (.pointer (some ⟨b, 0, none⟩)) := by rw [Lib.cell_of_heap hb2]; rfl
 have d1 : w2.cell? ⟨b, 1, none⟩ = some v := by rw [Lib.cell_of_heap hb2]; rfl
 have f1 : w2.frozen? ⟨b, 1, none⟩ = false := Lib.frozen_of_heap hb2 1
 obtain ⟨ao, n', cap, rfl⟩ : ∃ ao n' cap, v' = .slice ao n' cap := by
  rcases hown'.2 with ⟨hv, _⟩ | ⟨g, cap, cur, fz, hv, _⟩
  ·exact ⟨_, _, _, hv⟩
  ·exact ⟨_, _, _, hv⟩
 go_wp2
 go_ret2
 refine ⟨rfl, ?_, ?_⟩
 ·exact Lib.BuilderAtF.put (T := 163) (e := 5) hB hb2 (bs' := bs ++ Lib.strCells s) (by simpa [Lib.strCells_length] using hown') (by decide)
 ·exact (hb1.grown hgrow (by have := hb1.size; omega) (fun k hk => (hown.lt k hk).1)).setCell (p := ⟨b, 1, none⟩) hB _
end Go.Proofs.YtkdpcgmnkifbbaaGreatDoor
end
section
namespace Go.Proofs.YtkdpcgmnkifbbaaGreatDoor.C
open Go.RowKit Go.Proofs.YtkdpcgmnkifbbaaGreatDoorW.PrintWords
def strings_Trim.f (a0 a1 : ByteArray) : Option ByteArray :=
 if a0.size ≤ 9223372036854775807 ∧ a1.data.toList = [48, 49, 50, 51, 52, 53, 54, 55, 56, 57] then some ⟨(Lib.trimS a0.data.toList [48, 49, 50, 51, 52, 53, 54, 55, 56, 57]).toArray⟩ else none
theorem strings_Trim.calls (a0 a1 r : ByteArray) (w : World) (h : strings_Trim.f a0 a1 = some r) :
  Calls Tryz.prog 88 #[.string a0, .string a1] w fun e w' => e = .returned (.string r) ∧ Below w.heap.size w w' := by
 unfold strings_Trim.f at h
 split at h
 ·rename_i h1
  cases h
  have h2 := Any.strings_Trim_laid Tryz.lays160b (by kernel_rfl) a0 a1 w h1.1 (by rw [Lib.size_eq, h1.2]; decide) (by rw [h1.2]; exact ascii_of_all (by decide))
  rw [h1.2] at h2
  exact h2
 ·cases h
def strings_Compare.f (a0 a1 : ByteArray) : Option Int := some (Lib.compareBytes a0.data.toList a1.data.toList)
theorem strings_Compare.calls (a0 a1 : ByteArray) (r : Int) (w : World) (h : strings_Compare.f a0 a1 = some r) :
  Calls Tryz.prog 145 #[.string a0, .string a1] w fun e w' => e = .returned (.int .i64 r) ∧ Below w.heap.size w w' := by
 cases h
 refine (Tryz.strings_Compare a0 a1 w).mono ?_
 rintro e w' ⟨rfl, rfl⟩
 exact ⟨rfl, Below.refl _ _⟩
def strconv_Itoa.f (a0 : Int) : Option ByteArray := if -9223372036854775808 ≤ a0 ∧ a0 ≤ 9223372036854775807 then some (itx a0) else none
theorem strconv_Itoa.calls (a0 : Int) (r : ByteArray) (w : World) (h : strconv_Itoa.f a0 = some r) (HT : Aside0 (Tabs w)) :
  Calls Tryz.prog 119 #[.int .i64 a0] w fun e w' => e = .returned (.string r) ∧ Below w.heap.size w w' := by
 unfold strconv_Itoa.f at h
 split at h
 ·rename_i h1
  cases h
  refine (Tryz.strconv_Itoa a0 h1.1 h1.2 w HT.out).mono ?_
  rintro e w' ⟨rfl, k, os, rfl⟩
  exact ⟨rfl, Lib.below_grow _ w (Nat.le_refl _) k os⟩
 ·cases h
end Go.Proofs.YtkdpcgmnkifbbaaGreatDoor.C
end
section
namespace Go.Proofs.YtkdpcgmnkifbbaaGreatDoor.C
open Go.RowKit Go.Proofs.YtkdpcgmnkifbbaaGreatDoorW.PrintWords Go.Proofs.YtkdpcgmnkifbbaaGreatDoorW.PrintLast Go.Proofs.YtkdpcgmnkifbbaaGreatDoorW.PrintMore
attribute [local go_sem] max2_int min2_int max_two min_two max_three min_three max_four min_four
set_option linter.unusedVariables false
set_option linter.unusedSimpArgs false
def stringslite_HasPrefix.f (a0 : ByteArray) (a1 : ByteArray) : Option (Bool) := if (a0.size : Int) ≥ (a1.size : Int) then (if 0 ≤ (a1.size : Int) then (if (a1.size : Int) ≤ (a0.size : Int) then (some ((a0.extract 0 ((a1.size : Int) : Int).toNat).toList == a1.toList)) else (none)) else (none)) else (some false)
set_option maxHeartbeats 8000000 in
set_option maxRecDepth 100000 in
theorem stringslite_HasPrefix.calls (a0 : ByteArray) (a1 : ByteArray) (r : Bool) (w : World) (h : stringslite_HasPrefix.f a0 a1 = some r) :
  Calls Tryz.prog 150 #[.string a0, .string a1] w fun e w' => e = .returned (.bool r) ∧ Drawn0 w w' := by
 have H : (if (a0.size : Int) ≥ (a1.size : Int) then (if 0 ≤ (a1.size : Int) then (if (a1.size : Int) ≤ (a0.size : Int) then (some ((a0.extract 0 ((a1.size : Int) : Int).toNat).toList == a1.toList)) else (none)) else (none)) else (some false)) = some r := h
 clear h
 by_cases c3 : (a0.size : Int) ≥ (a1.size : Int)
 ·rw [if_pos c3] at H
  have c3b0 : decide ((a1.size : Int) ≤ (a0.size : Int)) = true := decide_eq_true c3
  have c3b1 : decide (a1.size ≤ a0.size) = true := decide_eq_true (Int.ofNat_le.mp c3)
  clear c3
  by_cases c4 : 0 ≤ (a1.size : Int)
  ·rw [if_pos c4] at H
   have c4b0 := eq_true c4
   have c4b1 : decide (0 ≤ (a1.size : Int)) = true := decide_eq_true c4
   clear c4
   by_cases c5 : (a1.size : Int) ≤ (a0.size : Int)
   ·rw [if_pos c5] at H
    have c5b0 := eq_true c5
    have c5b1 : decide ((a1.size : Int) ≤ (a0.size : Int)) = true := decide_eq_true c5
    clear c5
    obtain rfl := Option.some.inj H
    go_enter Tryz.func150, Tryz.ntmps150
    go_wp2
    go_ret
    exact ⟨by first | rfl | (simp; done) | (simp [*]; done), by repeat (first | exact Drawn0.refl _ | apply Drawn0.step)⟩
   ·rw [if_neg c5] at H
    exact absurd H (by simp)
  ·rw [if_neg c4] at H
   exact absurd H (by simp)
 ·rw [if_neg c3] at H
  have c3b0 : decide ((a1.size : Int) ≤ (a0.size : Int)) = false := decide_eq_false c3
  have c3b1 : decide (a1.size ≤ a0.size) = false := decide_eq_false (fun h => c3 (Int.ofNat_le.mpr h))
  clear c3
  obtain rfl := Option.some.inj H
  go_enter Tryz.func150, Tryz.ntmps150
  go_wp2
  go_ret
  exact ⟨by first | rfl | (simp; done) | (simp [*]; done), by repeat (first | exact Drawn0.refl _ | apply Drawn0.step)⟩
def stringslite_TrimPrefix.f (a0 : ByteArray) (a1 : ByteArray) : Option (ByteArray) := (stringslite_HasPrefix.f a0 a1).bind fun t101 => (if t101 = true then (if 0 ≤ (a1.size : Int) then (if (a1.size : Int) ≤ (a0.size : Int) then (some (a0.extract ((a1.size : Int) : Int).toNat a0.size)) else (none)) else (none)) else (some a0))
set_option maxHeartbeats 8000000 in
set_option maxRecDepth 100000 in
theorem stringslite_TrimPrefix.calls (a0 : ByteArray) (a1 : ByteArray) (r : ByteArray) (w : World) (h : stringslite_TrimPrefix.f a0 a1 = some r) :
  Calls Tryz.prog 121 #[.string a0, .string a1] w fun e w' => e = .returned (.string r) ∧ Drawn0 w w' := by
 have H : ((stringslite_HasPrefix.f a0 a1).bind fun t101 => (if t101 = true then (if 0 ≤ (a1.size : Int) then (if (a1.size : Int) ≤ (a0.size : Int) then (some (a0.extract ((a1.size : Int) : Int).toNat a0.size)) else (none)) else (none)) else (some a0))) = some r := h
 clear h
 obtain ⟨t101, A3, H⟩ := bindA H
 by_cases c4 : t101 = true
 ·subst c4
  rw [if_pos rfl] at H
  by_cases c5 : 0 ≤ (a1.size : Int)
  ·rw [if_pos c5] at H
   have c5b0 := eq_true c5
   have c5b1 : decide (0 ≤ (a1.size : Int)) = true := decide_eq_true c5
   clear c5
   by_cases c6 : (a1.size : Int) ≤ (a0.size : Int)
   ·rw [if_pos c6] at H
    have c6b0 := eq_true c6
    have c6b1 : decide ((a1.size : Int) ≤ (a0.size : Int)) = true := decide_eq_true c6
    clear c6
    obtain rfl := Option.some.inj H
    go_enter Tryz.func121, Tryz.ntmps121
    go_wp2_with (first | (refine gz (f := 150) rfl (some 7) rfl Tryz.func150 (stringslite_HasPrefix.calls a0 a1 true _ A3.out) ?_; rintro w' ⟨nd, rfl⟩))
    go_ret
    exact ⟨by first | rfl | (simp; done) | (simp [*]; done), by repeat (first | exact Drawn0.refl _ | apply Drawn0.step)⟩
   ·rw [if_neg c6] at H
    exact absurd H (by simp)
  ·rw [if_neg c5] at H
   exact absurd H (by simp)
 ·replace c4 := Bool.eq_false_iff.mpr c4
  subst c4
  rw [if_neg (show ¬ (false = true) by decide)] at H
  obtain rfl := Option.some.inj H
  go_enter Tryz.func121, Tryz.ntmps121
  go_wp2_with (first | (refine gz (f := 150) rfl (some 7) rfl Tryz.func150 (stringslite_HasPrefix.calls a0 a1 false _ A3.out) ?_; rintro w' ⟨nd, rfl⟩))
  go_ret
  exact ⟨by first | rfl | (simp; done) | (simp [*]; done), by repeat (first | exact Drawn0.refl _ | apply Drawn0.step)⟩
def strings_TrimPrefix.f (a0 : ByteArray) (a1 : ByteArray) : Option (ByteArray) := (stringslite_TrimPrefix.f a0 a1).bind fun t102 => (some t102)
set_option maxHeartbeats 8000000 in
set_option maxRecDepth 100000 in
theorem strings_TrimPrefix.calls (a0 : ByteArray) (a1 : ByteArray) (r : ByteArray) (w : World) (h : strings_TrimPrefix.f a0 a1 = some r) :
  Calls Tryz.prog 87 #[.string a0, .string a1] w fun e w' => e = .returned (.string r) ∧ Drawn0 w w' := by
 have H : ((stringslite_TrimPrefix.f a0 a1).bind fun t102 => (some t102)) = some r := h
 clear h
 obtain ⟨t102, A3, H⟩ := bindA H
 obtain rfl := Option.some.inj H
 go_enter Tryz.func87, Tryz.ntmps87
 go_wp2_with (first | (refine gz (f := 121) rfl (some 7) rfl Tryz.func121 (stringslite_TrimPrefix.calls a0 a1 t102 _ A3.out) ?_; rintro w' ⟨nd, rfl⟩))
 go_ret
 exact ⟨by first | rfl | (simp; done) | (simp [*]; done), by repeat (first | exact Drawn0.refl _ | apply Drawn0.step)⟩
mutual
def whole_Check.j0 : Nat → ByteArray → ByteArray → Bool → Option (Int)
 | 0, _, _, _ => none
 | k + 1, x0, x3, x6 => if x6 = true then (some 3) else (if 0 < (x3.size : Int) then (if (bt x3 0) = 48 then (whole_Check.j1 k x3 (x0.toList != ([48] : List UInt8))) else (whole_Check.j1 k x3 false)) else (none))
def whole_Check.j1 : Nat → ByteArray → Bool → Option (Int)
 | 0, _, _ => none
 | k + 1, x3, x14 => if x14 = true then (some 3) else (if (x3.size : Int) > 1024 then (some 11) else (some 0))
end
def whole_Check.f (k : Nat) (a0 : ByteArray) : Option (Int) := (strings_TrimPrefix.f a0 (⟨#[45]⟩ : ByteArray)).bind fun t103 => (if t103.toList = ([] : List UInt8) then (whole_Check.j0 k a0 t103 true) else ((strings_Trim.f t103 (⟨#[48, 49, 50, 51, 52, 53, 54, 55, 56, 57]⟩ : ByteArray)).bind fun t104 => (whole_Check.j0 k a0 t103 (t104.toList != ([] : List UInt8)))))
set_option maxHeartbeats 8000000 in
set_option maxRecDepth 100000 in
theorem whole_Check.calls (k : Nat) (a0 : ByteArray) (r : Int) (w : World) (h : whole_Check.f k a0 = some r) :
  Calls Tryz.prog 48 #[.string a0] w fun e w' => e = .returned (.int .i64 r) ∧ Below w.heap.size w w' := by
 have HB := Aside0.mk (Below.refl w.heap.size w)
 have H : ((strings_TrimPrefix.f a0 (⟨#[45]⟩ : ByteArray)).bind fun t103 => (if t103.toList = ([] : List UInt8) then (whole_Check.j0 k a0 t103 true) else ((strings_Trim.f t103 (⟨#[48, 49, 50, 51, 52, 53, 54, 55, 56, 57]⟩ : ByteArray)).bind fun t104 => (whole_Check.j0 k a0 t103 (t104.toList != ([] : List UInt8)))))) = some r := h
 clear h
 obtain ⟨t103, A2, H⟩ := bindA H
 have HC3 := Aside0.mk H
 clear H
 go_enter Tryz.func48, Tryz.ntmps48
 go_upto_region 2 with (first | (refine gz (f := 87) rfl (some 5) rfl Tryz.func87 (strings_TrimPrefix.calls a0 (⟨#[45]⟩ : ByteArray) t103 _ A2.out) ?_; rintro w' ⟨nd, rfl⟩))
 (try simp only [Act.put, List.setIfInBounds_toArray, List.set_cons_zero, List.set_cons_succ])
 go_cut [6] (fun v6 wc => ∃ (kq : Nat) (x6_2 : Bool), v6 = .bool x6_2 ∧ Aside0 (whole_Check.j0 kq a0 t103 x6_2 = some r) ∧ Aside0 (kq ≤ k) ∧ Aside0 (Below w.heap.size w wc))
 case first =>
  have H := HC3.out
  clear HC3
  by_cases c4 : t103.toList = ([] : List UInt8)
  ·rw [if_pos c4] at H
   have c4b0 := beq_iff_eq.mpr c4
   have c4b1 := bne_eq_false_iff_eq.mpr c4
   clear c4
   (first | rw [c4b0] | (simp only [i64_w, i32_w]; rw [c4b0]) | skip)
   have H' := Aside0.mk H
   clear H
   go_wp2
   go_meet
   case rel => exact ⟨_, (true), z25_, H', ⟨by first | omega | exact Nat.le_refl _⟩, ⟨by repeat (first | (with_reducible first | exact HB.out | apply below_alloc | apply pw_below_drewN | apply below_drew1) | exact HB.out)⟩⟩
  ·rw [if_neg c4] at H
   have c4b0 := beq_eq_false_iff_ne.mpr c4
   have c4b1 := bne_iff_ne.mpr c4
   (first | rw [c4b0] | (simp only [i64_w, i32_w]; rw [c4b0]) | skip)
   obtain ⟨t104, A5, H⟩ := bindA H
   have H' := Aside0.mk H
   clear H
   go_wp2_with (first | (go_at_call 88; (with_reducible refine (strings_Trim.calls t103 (⟨#[48, 49, 50, 51, 52, 53, 54, 55, 56, 57]⟩ : ByteArray) t104 _ A5.out).mono ?_); rintro e w6 ⟨rfl, hb⟩; replace HB := Aside0.mk (below_step z10_ hb); clear hb))
   go_meet
   case rel => exact ⟨_, ((t104.toList != ([] : List UInt8))), z25_, H', ⟨by first | omega | exact Nat.le_refl _⟩, ⟨by repeat (first | (with_reducible first | exact HB.out | apply below_alloc | apply pw_below_drewN | apply below_drew1) | exact HB.out)⟩⟩
 case rest =>
  clear HC3
  try clear p2
  try clear c4
  try clear c4b0
  try clear c4b1
  obtain ⟨kq, x6_2, rfl, HA, HJ2, HB⟩ := hcut
  cases kq with
  | zero => exact absurd HA.out (by simp [whole_Check.j0])
  | succ kj2 =>
   have H := HA.out
   clear HA
   simp only [whole_Check.j0] at H
   by_cases c7 : x6_2 = true
   ·subst c7
    rw [if_pos rfl] at H
    obtain rfl := Option.some.inj H
    go_wp2
    go_ret
    exact ⟨z24_, z10_⟩
   ·replace c7 := Bool.eq_false_iff.mpr c7
    subst c7
    rw [if_neg (show ¬ (false = true) by decide)] at H
    have HC8 := Aside0.mk H
    clear H
    go_upto_region 4 with (fail)
    go_cut [14] (fun v14 wc => ∃ (kq : Nat) (x14_7 : Bool), v14 = .bool x14_7 ∧ Aside0 (whole_Check.j1 kq t103 x14_7 = some r) ∧ Aside0 (kq ≤ kj2) ∧ Aside0 (Below w.heap.size w wc))
    case first =>
     have H := HC8.out
     clear HC8
     by_cases c9 : 0 < (t103.size : Int)
     ·rw [if_pos c9] at H
      have c9b0 : decide (0 < (t103.size : Int)) = true := decide_eq_true c9
      have c9b1 : decide (0 < t103.size) = true := decide_eq_true (by omega)
      clear c9
      (first | rw [c9b0] | (simp only [i64_w, i32_w]; rw [c9b0]) | skip)
      by_cases c11 : (bt t103 0) = 48
      ·rw [if_pos c11] at H
       have c11b0 := beq_iff_eq.mpr c11
       have c11b1 := bne_eq_false_iff_eq.mpr c11
       clear c11
       have H' := Aside0.mk H
       clear H
       have p10 : 0 ≤ (0 : Int) := (by omega)
       have q10 : 0 < t103.size := (by have : (0 : Int) < (t103.size : Int) := of_decide_eq_true z26_; omega)
       have hx10 : ∀ h : 0 < t103.size, ((t103[0]'h).toNat : Int) = bt t103 0 := bt_at t103 0
       clear p10
       have qi10 : (0 < (t103.size : Int)) = True := eq_true (of_decide_eq_true z26_)
       replace q10 := eq_true q10
       go_wp2
       go_meet
       case rel => exact ⟨_, ((a0.toList != ([48] : List UInt8))), z25_, H', ⟨by have := HJ2.out; first | omega | exact Nat.le_refl _⟩, ⟨by repeat (first | (with_reducible first | exact HB.out | apply below_alloc | apply pw_below_drewN | apply below_drew1) | exact HB.out)⟩⟩
      ·rw [if_neg c11] at H
       have c11b0 := beq_eq_false_iff_ne.mpr c11
       have c11b1 := bne_iff_ne.mpr c11
       have H' := Aside0.mk H
       clear H
       have p10 : 0 ≤ (0 : Int) := (by omega)
       have q10 : 0 < t103.size := (by have : (0 : Int) < (t103.size : Int) := of_decide_eq_true z26_; omega)
       have hx10 : ∀ h : 0 < t103.size, ((t103[0]'h).toNat : Int) = bt t103 0 := bt_at t103 0
       clear p10
       have qi10 : (0 < (t103.size : Int)) = True := eq_true (of_decide_eq_true z26_)
       replace q10 := eq_true q10
       go_wp2
       go_meet
       case rel => exact ⟨_, (false), z25_, H', ⟨by have := HJ2.out; first | omega | exact Nat.le_refl _⟩, ⟨by repeat (first | (with_reducible first | exact HB.out | apply below_alloc | apply pw_below_drewN | apply below_drew1) | exact HB.out)⟩⟩
     ·rw [if_neg c9] at H
      exact absurd H (by simp)
    case rest =>
     clear HC8
     try clear c1
     try clear p1
     try clear q1
     try clear hx1
     try clear qi1
     try clear p2
     try clear c4
     try clear c4b0
     try clear c4b1
     try clear c7
     try clear c8
     try clear c9
     try clear c9b0
     try clear c9b1
     try clear p10
     try clear q10
     try clear hx10
     try clear qi10
     try clear c11
     try clear c11b0
     try clear c11b1
     try clear p10
     try clear p2
     try clear q10
     obtain ⟨kq, x14_7, rfl, HA, HJ7, HB⟩ := hcut
     cases kq with
     | zero => exact absurd HA.out (by simp [whole_Check.j1])
     | succ kj7 =>
      have H := HA.out
      clear HA
      simp only [whole_Check.j1] at H
      by_cases c12 : x14_7 = true
      ·subst c12
       rw [if_pos rfl] at H
       obtain rfl := Option.some.inj H
       go_wp2
       go_ret
       exact ⟨z24_, z10_⟩
      ·replace c12 := Bool.eq_false_iff.mpr c12
       subst c12
       rw [if_neg (show ¬ (false = true) by decide)] at H
       by_cases c13 : (t103.size : Int) > 1024
       ·rw [if_pos c13] at H
        have c13b0 : decide (1024 < (t103.size : Int)) = true := decide_eq_true c13
        have c13b1 : decide (1024 < t103.size) = true := decide_eq_true (by omega)
        clear c13
        obtain rfl := Option.some.inj H
        go_wp2
        go_ret
        exact ⟨z24_, z10_⟩
       ·rw [if_neg c13] at H
        have c13b0 : decide (1024 < (t103.size : Int)) = false := decide_eq_false c13
        have c13b1 : decide (1024 < t103.size) = false := decide_eq_false (by omega)
        clear c13
        obtain rfl := Option.some.inj H
        go_wp2
        go_ret
        exact ⟨z24_, z10_⟩
def whole_Of.f (a0 : Int) : Option (ByteArray) := (strconv_Itoa.f a0).bind fun t105 => (some t105)
set_option maxHeartbeats 8000000 in
set_option maxRecDepth 100000 in
theorem whole_Of.calls (a0 : Int) (r : ByteArray) (w : World) (h : whole_Of.f a0 = some r) (HT : Aside0 (Tabs w)) :
  Calls Tryz.prog 79 #[.int .i64 a0] w fun e w' => e = .returned (.string r) ∧ Below w.heap.size w w' := by
 have HB := Aside0.mk (Below.refl w.heap.size w)
 have H : ((strconv_Itoa.f a0).bind fun t105 => (some t105)) = some r := h
 clear h
 obtain ⟨t105, A2, H⟩ := bindA H
 obtain rfl := Option.some.inj H
 go_enter Tryz.func79, Tryz.ntmps79
 go_wp2_with (first | (refine gy (f := 119) rfl (some 4) rfl Tryz.func119 (strconv_Itoa.calls a0 t105 _ A2.out (Aside0.mk (Tabs.below HT.out z4_))) z10_ ?_; clear HB; intro w3 HB))
 go_ret
 exact ⟨z24_, z10_⟩
def whole_sign.f (a0 : ByteArray) : Option (Int) := if a0.toList = ([48] : List UInt8) then (some 0) else (if 0 < (a0.size : Int) then (if (bt a0 0) = 45 then (some (-1)) else (some 1)) else (none))
set_option maxHeartbeats 8000000 in
set_option maxRecDepth 100000 in
theorem whole_sign.calls (a0 : ByteArray) (r : Int) (w : World) (h : whole_sign.f a0 = some r) :
  Calls Tryz.prog 111 #[.string a0] w fun e w' => e = .returned (.int .i64 r) ∧ Drawn0 w w' := by
 have H : (if a0.toList = ([48] : List UInt8) then (some 0) else (if 0 < (a0.size : Int) then (if (bt a0 0) = 45 then (some (-1)) else (some 1)) else (none))) = some r := h
 clear h
 by_cases c2 : a0.toList = ([48] : List UInt8)
 ·rw [if_pos c2] at H
  have c2b0 := beq_iff_eq.mpr c2
  have c2b1 := bne_eq_false_iff_eq.mpr c2
  clear c2
  obtain rfl := Option.some.inj H
  go_enter Tryz.func111, Tryz.ntmps111
  go_wp2
  go_ret
  exact ⟨by first | rfl | (simp; done) | (simp [*]; done), by repeat (first | exact Drawn0.refl _ | apply Drawn0.step)⟩
 ·rw [if_neg c2] at H
  have c2b0 := beq_eq_false_iff_ne.mpr c2
  have c2b1 := bne_iff_ne.mpr c2
  by_cases c3 : 0 < (a0.size : Int)
  ·rw [if_pos c3] at H
   have c3b0 : decide (0 < (a0.size : Int)) = true := decide_eq_true c3
   have c3b1 : decide (0 < a0.size) = true := decide_eq_true (by omega)
   clear c3
   by_cases c5 : (bt a0 0) = 45
   ·rw [if_pos c5] at H
    have c5b0 := beq_iff_eq.mpr c5
    have c5b1 := bne_eq_false_iff_eq.mpr c5
    clear c5
    obtain rfl := Option.some.inj H
    have p4 : 0 ≤ (0 : Int) := (by omega)
    have q4 : 0 < a0.size := z12_
    have hx4 : ∀ h : 0 < a0.size, ((a0[0]'h).toNat : Int) = bt a0 0 := bt_at a0 0
    clear p4
    have qi4 : (0 < (a0.size : Int)) = True := eq_true (of_decide_eq_true z26_)
    replace q4 := eq_true q4
    go_enter Tryz.func111, Tryz.ntmps111
    go_wp2
    go_ret
    exact ⟨by first | rfl | (simp; done) | (simp [*]; done), by repeat (first | exact Drawn0.refl _ | apply Drawn0.step)⟩
   ·rw [if_neg c5] at H
    have c5b0 := beq_eq_false_iff_ne.mpr c5
    have c5b1 := bne_iff_ne.mpr c5
    obtain rfl := Option.some.inj H
    have p4 : 0 ≤ (0 : Int) := (by omega)
    have q4 : 0 < a0.size := z12_
    have hx4 : ∀ h : 0 < a0.size, ((a0[0]'h).toNat : Int) = bt a0 0 := bt_at a0 0
    clear p4
    have qi4 : (0 < (a0.size : Int)) = True := eq_true (of_decide_eq_true z26_)
    replace q4 := eq_true q4
    go_enter Tryz.func111, Tryz.ntmps111
    go_wp2
    go_ret
    exact ⟨by first | rfl | (simp; done) | (simp [*]; done), by repeat (first | exact Drawn0.refl _ | apply Drawn0.step)⟩
  ·rw [if_neg c3] at H
   exact absurd H (by simp)
def whole_Sign.f (k : Nat) (a0 : ByteArray) : Option (Int × Int) := (whole_Check.f k a0).bind fun t106 => (if t106 = 0 then ((whole_sign.f a0).bind fun t107 => (some (t107, 0))) else (some (0, t106)))
set_option maxHeartbeats 8000000 in
set_option maxRecDepth 100000 in
theorem whole_Sign.calls (k : Nat) (a0 : ByteArray) (r1 : Int) (r2 : Int) (w : World) (h : whole_Sign.f k a0 = some (r1, r2)) :
  Calls Tryz.prog 89 #[.string a0] w fun e w' => e = .returned (.tuple #[.int .i64 r1, .int .i64 r2]) ∧ Below w.heap.size w w' := by
 have HB := Aside0.mk (Below.refl w.heap.size w)
 have H : ((whole_Check.f k a0).bind fun t106 => (if t106 = 0 then ((whole_sign.f a0).bind fun t107 => (some (t107, 0))) else (some (0, t106)))) = some (r1, r2) := h
 clear h
 obtain ⟨t106, A2, H⟩ := bindA H
 by_cases c3 : t106 = 0
 ·rw [if_pos c3] at H
  have c3b0 := beq_iff_eq.mpr c3
  have c3b1 := bne_eq_false_iff_eq.mpr c3
  clear c3
  obtain ⟨t107, A4, H⟩ := bindA H
  simp only [Option.some.injEq, Prod.mk.injEq] at H
  obtain ⟨rfl, rfl⟩ := H
  go_enter Tryz.func89, Tryz.ntmps89
  go_wp2_with (first | (refine gy (f := 48) rfl (some 6) rfl Tryz.func48 (whole_Check.calls k a0 t106 _ A2.out) z10_ ?_; clear HB; intro w5 HB) | (refine gz (f := 111) rfl (some 11) rfl Tryz.func111 (whole_sign.calls a0 t107 _ A4.out) ?_; rintro w' ⟨nd, rfl⟩))
  go_ret2
  exact ⟨z24_, z10_⟩
 ·rw [if_neg c3] at H
  have c3b0 := beq_eq_false_iff_ne.mpr c3
  have c3b1 := bne_iff_ne.mpr c3
  simp only [Option.some.injEq, Prod.mk.injEq] at H
  obtain ⟨rfl, rfl⟩ := H
  go_enter Tryz.func89, Tryz.ntmps89
  go_wp2_with (first | (refine gy (f := 48) rfl (some 6) rfl Tryz.func48 (whole_Check.calls k a0 t106 _ A2.out) z10_ ?_; clear HB; intro w6 HB))
  go_ret2
  exact ⟨z24_, z10_⟩
def whole_all.l0 : Nat → List ByteArray → Int → Int → Option (Int)
 | 0, _, _, _ => none
 | k + 1, x6, x7, x8 => if x8 < x7 then (if 0 ≤ x8 then (if x8 < (x6.length : Int) then ((whole_Check.f k (rdOf ByteArray.empty x6 x8)).bind fun t109 => (if t109 = 0 then (whole_all.l0 k x6 x7 (wrap64 (x8 + 1))) else (some t109))) else (none)) else (none)) else (some 0)
def whole_all.f (k : Nat) (l0 : List ByteArray) : Option (Int) := whole_all.l0 k l0 (l0.length : Int) 0
set_option maxHeartbeats 8000000 in
set_option maxRecDepth 100000 in
theorem whole_all.calls (k : Nat) (A0 : Option Addr) (c0 : Nat) (l0 : List ByteArray) (r : Int) (w : World) (hr0 : Kd.C Kd.string w A0 l0.length l0) (hc0 : l0.length ≤ c0) (h : whole_all.f k l0 = some r) :
  Calls Tryz.prog 101 #[.slice A0 l0.length c0] w fun e w' => e = .returned (.int .i64 r) ∧ Below w.heap.size w w' := by
 have HR0 := Aside0.mk hr0
 have HC0 := Aside0.mk hc0
 clear hr0 hc0
 have HB := Aside0.mk (Below.refl w.heap.size w)
 have H : (whole_all.l0 k l0 (l0.length : Int) 0) = some r := h
 clear h
 have H' := Aside0.mk H
 clear H
 go_enter Tryz.func101, Tryz.ntmps101
 go_wp2
 go_loopg [8] k (fun kq v8 w' => ∃ (x8_1 : Int), v8 = .int .i64 x8_1 ∧ Aside0 (whole_all.l0 kq l0 (l0.length : Int) x8_1 = some r) ∧ Aside0 (kq ≤ k) ∧ Aside0 (Below w.heap.size w w'))
 case atStart => exact ⟨(0), z25_, H', ⟨Nat.le_refl _⟩, ⟨by repeat (first | (with_reducible first | exact HB.out | apply below_alloc | apply pw_below_drewN | apply below_drew1) | exact HB.out)⟩⟩
 case round =>
  clear H'
  try clear c1
  obtain ⟨x8_1, rfl, HA, HK1, HB⟩ := hrel
  cases gk with
  | zero => exact absurd HA.out (by simp [whole_all.l0])
  | succ k1 =>
   have H := HA.out
   clear HA
   simp only [whole_all.l0] at H
   by_cases c2 : x8_1 < (l0.length : Int)
   ·rw [if_pos c2] at H
    have c2b0 : decide (x8_1 < (l0.length : Int)) = true := decide_eq_true c2
    clear c2
    by_cases c3 : 0 ≤ x8_1
    ·rw [if_pos c3] at H
     have c3b0 : decide (0 ≤ x8_1) = true := decide_eq_true c3
     clear c3
     by_cases c4 : x8_1 < (l0.length : Int)
     ·rw [if_pos c4] at H
      have c4b0 : decide (x8_1 < (l0.length : Int)) = true := decide_eq_true c4
      clear c4
      obtain ⟨t109, A5, H⟩ := bindA H
      by_cases c6 : t109 = 0
      ·rw [if_pos c6] at H
       have c6b0 := beq_iff_eq.mpr c6
       have c6b1 := bne_eq_false_iff_eq.mpr c6
       clear c6
       have H' := Aside0.mk H
       clear H
       have p108 : 0 ≤ (x8_1 : Int) := of_decide_eq_true z26_
       have q108 : x8_1 < (l0.length : Int) := of_decide_eq_true z26_
       obtain ⟨ad108, e108, hx108_0⟩ := Kd.at_string HR0.out x8_1 p108 q108
       cases e108
       replace hx108_0 := (HB.out.cell (World.block_lt_of_cell? w _ hx108_0)).trans hx108_0
       replace p108 := eq_true p108
       replace q108 := eq_true q108
       go_wp2_with (first | (refine gy (f := 48) rfl (some 13) rfl Tryz.func48 (whole_Check.calls k1 (rdOf ByteArray.empty l0 x8_1) t109 _ A5.out) z10_ ?_; clear HB; intro w7 HB))
       go_roundg k1
       case measure => have := HK1.out; omega
       case rel => exact ⟨(wrap64 (x8_1 + 1)), z25_, H', ⟨by have := HK1.out; omega⟩, ⟨by repeat (first | (with_reducible first | exact HB.out | apply below_alloc | apply pw_below_drewN | apply below_drew1) | exact HB.out)⟩⟩
      ·rw [if_neg c6] at H
       have c6b0 := beq_eq_false_iff_ne.mpr c6
       have c6b1 := bne_iff_ne.mpr c6
       obtain rfl := Option.some.inj H
       have p108 : 0 ≤ (x8_1 : Int) := of_decide_eq_true z26_
       have q108 : x8_1 < (l0.length : Int) := of_decide_eq_true z26_
       obtain ⟨ad108, e108, hx108_0⟩ := Kd.at_string HR0.out x8_1 p108 q108
       cases e108
       replace hx108_0 := (HB.out.cell (World.block_lt_of_cell? w _ hx108_0)).trans hx108_0
       replace p108 := eq_true p108
       replace q108 := eq_true q108
       go_wp2_with (first | (refine gy (f := 48) rfl (some 13) rfl Tryz.func48 (whole_Check.calls k1 (rdOf ByteArray.empty l0 x8_1) t109 _ A5.out) z10_ ?_; clear HB; intro w8 HB))
       go_ret
       exact ⟨z24_, z10_⟩
     ·rw [if_neg c4] at H
      exact absurd H (by simp)
    ·rw [if_neg c3] at H
     exact absurd H (by simp)
   ·rw [if_neg c2] at H
    have c2b0 : decide (x8_1 < (l0.length : Int)) = false := decide_eq_false c2
    clear c2
    obtain rfl := Option.some.inj H
    go_wp2
    go_ret
    exact ⟨z24_, z10_⟩
def whole_order.f (a0 : ByteArray) (a1 : ByteArray) : Option (Int) := if (a0.size : Int) = (a1.size : Int) then ((strings_Compare.f a0 a1).bind fun t110 => (some t110)) else (if (a0.size : Int) < (a1.size : Int) then (some (-1)) else (some 1))
set_option maxHeartbeats 8000000 in
set_option maxRecDepth 100000 in
theorem whole_order.calls (a0 : ByteArray) (a1 : ByteArray) (r : Int) (w : World) (h : whole_order.f a0 a1 = some r) :
  Calls Tryz.prog 112 #[.string a0, .string a1] w fun e w' => e = .returned (.int .i64 r) ∧ Below w.heap.size w w' := by
 have HB := Aside0.mk (Below.refl w.heap.size w)
 have H : (if (a0.size : Int) = (a1.size : Int) then ((strings_Compare.f a0 a1).bind fun t110 => (some t110)) else (if (a0.size : Int) < (a1.size : Int) then (some (-1)) else (some 1))) = some r := h
 clear h
 by_cases c3 : (a0.size : Int) = (a1.size : Int)
 ·rw [if_pos c3] at H
  have c3b0 := beq_iff_eq.mpr c3
  have c3b1 := bne_eq_false_iff_eq.mpr c3
  have c3b2 : (a0.size == a1.size) = true := by first | simpa using c3 | (simp at c3 ⊢; omega)
  clear c3
  obtain ⟨t110, A4, H⟩ := bindA H
  obtain rfl := Option.some.inj H
  go_enter Tryz.func112, Tryz.ntmps112
  go_wp2_with (first | (refine gy (f := 145) rfl (some 17) rfl Tryz.func145 (strings_Compare.calls a0 a1 t110 _ A4.out) z10_ ?_; clear HB; intro w5 HB))
  go_ret
  exact ⟨z24_, z10_⟩
 ·rw [if_neg c3] at H
  have c3b0 := beq_eq_false_iff_ne.mpr c3
  have c3b1 := bne_iff_ne.mpr c3
  have c3b2 : (a0.size == a1.size) = false := by first | simpa using c3 | (simp at c3 ⊢; omega)
  by_cases c6 : (a0.size : Int) < (a1.size : Int)
  ·rw [if_pos c6] at H
   have c6b0 : decide ((a0.size : Int) < (a1.size : Int)) = true := decide_eq_true c6
   have c6b1 : decide (a0.size < a1.size) = true := decide_eq_true (Int.ofNat_lt.mp c6)
   clear c6
   obtain rfl := Option.some.inj H
   go_enter Tryz.func112, Tryz.ntmps112
   go_wp2
   go_ret
   exact ⟨z24_, z10_⟩
  ·rw [if_neg c6] at H
   have c6b0 : decide ((a0.size : Int) < (a1.size : Int)) = false := decide_eq_false c6
   have c6b1 : decide (a0.size < a1.size) = false := decide_eq_false (fun h => c6 (Int.ofNat_lt.mpr h))
   clear c6
   obtain rfl := Option.some.inj H
   go_enter Tryz.func112, Tryz.ntmps112
   go_wp2
   go_ret
   exact ⟨z24_, z10_⟩
def whole_Compare.f (k : Nat) (a0 : ByteArray) (a1 : ByteArray) : Option (Int × Int) := (whole_all.f k (([a0, a1] : List ByteArray))).bind fun t114 => (if t114 = 0 then ((whole_sign.f a0).bind fun t115 => ((whole_sign.f a1).bind fun t116 => (if t115 < t116 then (some ((-1), 0)) else ((whole_sign.f a1).bind fun t117 => (if t115 > t117 then (some (1, 0)) else ((strings_TrimPrefix.f a0 (⟨#[45]⟩ : ByteArray)).bind fun t118 => ((strings_TrimPrefix.f a1 (⟨#[45]⟩ : ByteArray)).bind fun t119 => ((whole_order.f t118 t119).bind fun t120 => (some (wrap64 (t115 * t120), 0)))))))))) else (some (0, t114)))
set_option maxHeartbeats 8000000 in
set_option maxRecDepth 100000 in
theorem whole_Compare.calls (k : Nat) (a0 : ByteArray) (a1 : ByteArray) (r1 : Int) (r2 : Int) (w : World) (h : whole_Compare.f k a0 a1 = some (r1, r2)) :
  Calls Tryz.prog 69 #[.string a0, .string a1] w fun e w' => e = .returned (.tuple #[.int .i64 r1, .int .i64 r2]) ∧ Below w.heap.size w w' := by
 have HB := Aside0.mk (Below.refl w.heap.size w)
 have H : ((whole_all.f k (([a0, a1] : List ByteArray))).bind fun t114 => (if t114 = 0 then ((whole_sign.f a0).bind fun t115 => ((whole_sign.f a1).bind fun t116 => (if t115 < t116 then (some ((-1), 0)) else ((whole_sign.f a1).bind fun t117 => (if t115 > t117 then (some (1, 0)) else ((strings_TrimPrefix.f a0 (⟨#[45]⟩ : ByteArray)).bind fun t118 => ((strings_TrimPrefix.f a1 (⟨#[45]⟩ : ByteArray)).bind fun t119 => ((whole_order.f t118 t119).bind fun t120 => (some (wrap64 (t115 * t120), 0)))))))))) else (some (0, t114)))) = some (r1, r2) := h
 clear h
 obtain ⟨y111, hy111⟩ : ∃ y_ : List ByteArray, y_ = (([a0, a1] : List ByteArray)) := ⟨_, rfl⟩
 replace H : ((whole_all.f k y111).bind fun t114 => (if t114 = 0 then ((whole_sign.f a0).bind fun t115 => ((whole_sign.f a1).bind fun t116 => (if t115 < t116 then (some ((-1), 0)) else ((whole_sign.f a1).bind fun t117 => (if t115 > t117 then (some (1, 0)) else ((strings_TrimPrefix.f a0 (⟨#[45]⟩ : ByteArray)).bind fun t118 => ((strings_TrimPrefix.f a1 (⟨#[45]⟩ : ByteArray)).bind fun t119 => ((whole_order.f t118 t119).bind fun t120 => (some (wrap64 (t115 * t120), 0)))))))))) else (some (0, t114)))) = some (r1, r2) := by first | (rw [hy111]; with_reducible exact H) | (have H2_ := (Option.bind_some _ _).symm.trans H; rw [hy111]; with_reducible exact H2_) | (have H2_ := (Option.bind_some _ _).symm.trans H; with_reducible exact H2_) | with_reducible exact H | (rw [hy111]; exact H) | exact H
 have Ny111 := Aside0.mk hy111
 clear hy111
 obtain ⟨t114, A3, H⟩ := bindA H
 by_cases c4 : t114 = 0
 ·rw [if_pos c4] at H
  have c4b0 := beq_iff_eq.mpr c4
  have c4b1 := bne_eq_false_iff_eq.mpr c4
  clear c4
  obtain ⟨t115, A5, H⟩ := bindA H
  obtain ⟨t116, A6, H⟩ := bindA H
  by_cases c7 : t115 < t116
  ·rw [if_pos c7] at H
   have c7b0 : decide (t115 < t116) = true := decide_eq_true c7
   clear c7
   simp only [Option.some.injEq, Prod.mk.injEq] at H
   obtain ⟨rfl, rfl⟩ := H
   go_enter Tryz.func69, Tryz.ntmps69
   go_wp2_with (first | ((with_reducible refine gate_dst (N := 10) rfl ?_); refine Kd.R_lit Kd.string _ 39 ?hg (N := 10) ?hd (xs := ([a0, a1] : List ByteArray)) (inner := [.string a0, .string a1]) (ok := fun _ => True) (okp := fun _ => True) ?hr ?hp (fun _ hk => hk) trivial (Below.refl _ _) (Nat.le_refl _) (by simp) ?_; (case hd => rfl); (case hg => rfl); (case hr => first | (go_simp; done) | (go_simp; rfl)); (case hp => exact (Reps.one (show Kd.M Kd.string _ _ _ a0 [.string a0] from rfl) (Reps.one (show Kd.M Kd.string _ _ _ a1 [.string a1] from rfl) (Reps.none _ _)))); intro v112 w8 ho9 hb hg_ hnew_; clear hg_ hnew_; (first | rw [← Ny111.out] at ho9 | (simp only [Int.reduceToNat] at ho9; rw [← Ny111.out] at ho9)); have n0_ := Aside0.mk (Kd.R_lower ho9 (below_size z10_)); have n1_ := Aside0.mk (below_step z10_ hb); clear HB; have HO113 := n0_; have HB := n1_; clear n0_ n1_; clear hb ho9; obtain ⟨Ao10, co10, eo10⟩ := Kd.R_slice HO113.out; subst eo10) | ((with_reducible refine gate_callee (f := 101) rfl ?_); refine goesL_ (some 11) rfl rfl Tryz.func101 (by kernel_rfl) rfl #[.slice Ao10 y111.length co10] rfl z9_ ?_; (with_reducible refine (whole_all.calls k _ _ y111 t114 _ ?side1 ?side2 A3.out).mono ?_); (case side1 => repeat (first | exact (Kd.R_reads' HO113.out).2.2 | (with_reducible refine Kd.C_alloc ?_ _) | (with_reducible refine Kd.C_drewN ?_ _) | (with_reducible refine Kd.C_drew ?_))); (case side2 => exact (Kd.R_reads' HO113.out).2.1); rintro e w11 ⟨rfl, hb⟩; refine ⟨_, rfl, ?_⟩; have n0_ := Aside0.mk (Kd.R_below (by (with_reducible repeat (first | apply Kd.R_alloc | apply Kd.R_drewN | apply Kd.R_drew)); exact HO113.out) hb); have n1_ := Aside0.mk (below_step z10_ hb); clear HO113; clear HB; have HO113 := n0_; have HB := n1_; clear n0_ n1_; (try clear hb); (try clear hb2); (try clear hk); (try clear hi)) | (refine gz (f := 111) rfl (some 16) rfl Tryz.func111 (whole_sign.calls a0 t115 _ A5.out) ?_; rintro w' ⟨nd, rfl⟩) | (refine gz (f := 111) rfl (some 20) rfl Tryz.func111 (whole_sign.calls a1 t116 _ A6.out) ?_; rintro w' ⟨nd, rfl⟩))
   go_ret2
   exact ⟨z24_, z10_⟩
  ·rw [if_neg c7] at H
   have c7b0 : decide (t115 < t116) = false := decide_eq_false c7
   clear c7
   obtain ⟨t117, A12, H⟩ := bindA H
   by_cases c13 : t115 > t117
   ·rw [if_pos c13] at H
    have c13b0 : decide (t117 < t115) = true := decide_eq_true c13
    clear c13
    simp only [Option.some.injEq, Prod.mk.injEq] at H
    obtain ⟨rfl, rfl⟩ := H
    go_enter Tryz.func69, Tryz.ntmps69
    go_wp2_with (first | ((with_reducible refine gate_dst (N := 10) rfl ?_); refine Kd.R_lit Kd.string _ 39 ?hg (N := 10) ?hd (xs := ([a0, a1] : List ByteArray)) (inner := [.string a0, .string a1]) (ok := fun _ => True) (okp := fun _ => True) ?hr ?hp (fun _ hk => hk) trivial (Below.refl _ _) (Nat.le_refl _) (by simp) ?_; (case hd => rfl); (case hg => rfl); (case hr => first | (go_simp; done) | (go_simp; rfl)); (case hp => exact (Reps.one (show Kd.M Kd.string _ _ _ a0 [.string a0] from rfl) (Reps.one (show Kd.M Kd.string _ _ _ a1 [.string a1] from rfl) (Reps.none _ _)))); intro v112 w14 ho15 hb hg_ hnew_; clear hg_ hnew_; (first | rw [← Ny111.out] at ho15 | (simp only [Int.reduceToNat] at ho15; rw [← Ny111.out] at ho15)); have n0_ := Aside0.mk (Kd.R_lower ho15 (below_size z10_)); have n1_ := Aside0.mk (below_step z10_ hb); clear HB; have HO113 := n0_; have HB := n1_; clear n0_ n1_; clear hb ho15; obtain ⟨Ao16, co16, eo16⟩ := Kd.R_slice HO113.out; subst eo16) | ((with_reducible refine gate_callee (f := 101) rfl ?_); refine goesL_ (some 11) rfl rfl Tryz.func101 (by kernel_rfl) rfl #[.slice Ao16 y111.length co16] rfl z9_ ?_; (with_reducible refine (whole_all.calls k _ _ y111 t114 _ ?side1 ?side2 A3.out).mono ?_); (case side1 => repeat (first | exact (Kd.R_reads' HO113.out).2.2 | (with_reducible refine Kd.C_alloc ?_ _) | (with_reducible refine Kd.C_drewN ?_ _) | (with_reducible refine Kd.C_drew ?_))); (case side2 => exact (Kd.R_reads' HO113.out).2.1); rintro e w17 ⟨rfl, hb⟩; refine ⟨_, rfl, ?_⟩; have n0_ := Aside0.mk (Kd.R_below (by (with_reducible repeat (first | apply Kd.R_alloc | apply Kd.R_drewN | apply Kd.R_drew)); exact HO113.out) hb); have n1_ := Aside0.mk (below_step z10_ hb); clear HO113; clear HB; have HO113 := n0_; have HB := n1_; clear n0_ n1_; (try clear hb); (try clear hb2); (try clear hk); (try clear hi)) | (refine gz (f := 111) rfl (some 16) rfl Tryz.func111 (whole_sign.calls a0 t115 _ A5.out) ?_; rintro w' ⟨nd, rfl⟩) | (refine gz (f := 111) rfl (some 20) rfl Tryz.func111 (whole_sign.calls a1 t116 _ A6.out) ?_; rintro w' ⟨nd, rfl⟩) | (refine gz (f := 111) rfl (some 25) rfl Tryz.func111 (whole_sign.calls a1 t117 _ A12.out) ?_; rintro w' ⟨nd, rfl⟩))
    go_ret2
    exact ⟨z24_, z10_⟩
   ·rw [if_neg c13] at H
    have c13b0 : decide (t117 < t115) = false := decide_eq_false c13
    clear c13
    obtain ⟨t118, A18, H⟩ := bindA H
    obtain ⟨t119, A19, H⟩ := bindA H
    obtain ⟨t120, A20, H⟩ := bindA H
    simp only [Option.some.injEq, Prod.mk.injEq] at H
    obtain ⟨rfl, rfl⟩ := H
    go_enter Tryz.func69, Tryz.ntmps69
    go_wp2_with (first | ((with_reducible refine gate_dst (N := 10) rfl ?_); refine Kd.R_lit Kd.string _ 39 ?hg (N := 10) ?hd (xs := ([a0, a1] : List ByteArray)) (inner := [.string a0, .string a1]) (ok := fun _ => True) (okp := fun _ => True) ?hr ?hp (fun _ hk => hk) trivial (Below.refl _ _) (Nat.le_refl _) (by simp) ?_; (case hd => rfl); (case hg => rfl); (case hr => first | (go_simp; done) | (go_simp; rfl)); (case hp => exact (Reps.one (show Kd.M Kd.string _ _ _ a0 [.string a0] from rfl) (Reps.one (show Kd.M Kd.string _ _ _ a1 [.string a1] from rfl) (Reps.none _ _)))); intro v112 w21 ho22 hb hg_ hnew_; clear hg_ hnew_; (first | rw [← Ny111.out] at ho22 | (simp only [Int.reduceToNat] at ho22; rw [← Ny111.out] at ho22)); have n0_ := Aside0.mk (Kd.R_lower ho22 (below_size z10_)); have n1_ := Aside0.mk (below_step z10_ hb); clear HB; have HO113 := n0_; have HB := n1_; clear n0_ n1_; clear hb ho22; obtain ⟨Ao23, co23, eo23⟩ := Kd.R_slice HO113.out; subst eo23) | ((with_reducible refine gate_callee (f := 101) rfl ?_); refine goesL_ (some 11) rfl rfl Tryz.func101 (by kernel_rfl) rfl #[.slice Ao23 y111.length co23] rfl z9_ ?_; (with_reducible refine (whole_all.calls k _ _ y111 t114 _ ?side1 ?side2 A3.out).mono ?_); (case side1 => repeat (first | exact (Kd.R_reads' HO113.out).2.2 | (with_reducible refine Kd.C_alloc ?_ _) | (with_reducible refine Kd.C_drewN ?_ _) | (with_reducible refine Kd.C_drew ?_))); (case side2 => exact (Kd.R_reads' HO113.out).2.1); rintro e w24 ⟨rfl, hb⟩; refine ⟨_, rfl, ?_⟩; have n0_ := Aside0.mk (Kd.R_below (by (with_reducible repeat (first | apply Kd.R_alloc | apply Kd.R_drewN | apply Kd.R_drew)); exact HO113.out) hb); have n1_ := Aside0.mk (below_step z10_ hb); clear HO113; clear HB; have HO113 := n0_; have HB := n1_; clear n0_ n1_; (try clear hb); (try clear hb2); (try clear hk); (try clear hi)) | (refine gz (f := 111) rfl (some 16) rfl Tryz.func111 (whole_sign.calls a0 t115 _ A5.out) ?_; rintro w' ⟨nd, rfl⟩) | (refine gz (f := 111) rfl (some 20) rfl Tryz.func111 (whole_sign.calls a1 t116 _ A6.out) ?_; rintro w' ⟨nd, rfl⟩) | (refine gz (f := 111) rfl (some 25) rfl Tryz.func111 (whole_sign.calls a1 t117 _ A12.out) ?_; rintro w' ⟨nd, rfl⟩) | (refine gz (f := 87) rfl (some 29) rfl Tryz.func87 (strings_TrimPrefix.calls a0 (⟨#[45]⟩ : ByteArray) t118 _ A18.out) ?_; rintro w' ⟨nd, rfl⟩) | (refine gz (f := 87) rfl (some 31) rfl Tryz.func87 (strings_TrimPrefix.calls a1 (⟨#[45]⟩ : ByteArray) t119 _ A19.out) ?_; rintro w' ⟨nd, rfl⟩) | (refine gz (f := 112) rfl (some 32) rfl Tryz.func112 (whole_order.calls t118 t119 t120 _ A20.out) ?_; rintro w25 hb; have n0_ := Aside0.mk (Kd.R_below (by (with_reducible repeat (first | apply Kd.R_alloc | apply Kd.R_drewN | apply Kd.R_drew)); exact HO113.out) hb); have n1_ := Aside0.mk (below_step z10_ hb); clear HO113; clear HB; have HO113 := n0_; have HB := n1_; clear n0_ n1_; (try clear hb); (try clear hb2); (try clear hk); (try clear hi)))
    go_ret2
    exact ⟨z24_, z10_⟩
 ·rw [if_neg c4] at H
  have c4b0 := beq_eq_false_iff_ne.mpr c4
  have c4b1 := bne_iff_ne.mpr c4
  simp only [Option.some.injEq, Prod.mk.injEq] at H
  obtain ⟨rfl, rfl⟩ := H
  go_enter Tryz.func69, Tryz.ntmps69
  go_wp2_with (first | ((with_reducible refine gate_dst (N := 10) rfl ?_); refine Kd.R_lit Kd.string _ 39 ?hg (N := 10) ?hd (xs := ([a0, a1] : List ByteArray)) (inner := [.string a0, .string a1]) (ok := fun _ => True) (okp := fun _ => True) ?hr ?hp (fun _ hk => hk) trivial (Below.refl _ _) (Nat.le_refl _) (by simp) ?_; (case hd => rfl); (case hg => rfl); (case hr => first | (go_simp; done) | (go_simp; rfl)); (case hp => exact (Reps.one (show Kd.M Kd.string _ _ _ a0 [.string a0] from rfl) (Reps.one (show Kd.M Kd.string _ _ _ a1 [.string a1] from rfl) (Reps.none _ _)))); intro v112 w26 ho27 hb hg_ hnew_; clear hg_ hnew_; (first | rw [← Ny111.out] at ho27 | (simp only [Int.reduceToNat] at ho27; rw [← Ny111.out] at ho27)); have n0_ := Aside0.mk (Kd.R_lower ho27 (below_size z10_)); have n1_ := Aside0.mk (below_step z10_ hb); clear HB; have HO113 := n0_; have HB := n1_; clear n0_ n1_; clear hb ho27; obtain ⟨Ao28, co28, eo28⟩ := Kd.R_slice HO113.out; subst eo28) | ((with_reducible refine gate_callee (f := 101) rfl ?_); refine goesL_ (some 11) rfl rfl Tryz.func101 (by kernel_rfl) rfl #[.slice Ao28 y111.length co28] rfl z9_ ?_; (with_reducible refine (whole_all.calls k _ _ y111 t114 _ ?side1 ?side2 A3.out).mono ?_); (case side1 => repeat (first | exact (Kd.R_reads' HO113.out).2.2 | (with_reducible refine Kd.C_alloc ?_ _) | (with_reducible refine Kd.C_drewN ?_ _) | (with_reducible refine Kd.C_drew ?_))); (case side2 => exact (Kd.R_reads' HO113.out).2.1); rintro e w29 ⟨rfl, hb⟩; refine ⟨_, rfl, ?_⟩; have n0_ := Aside0.mk (Kd.R_below (by (with_reducible repeat (first | apply Kd.R_alloc | apply Kd.R_drewN | apply Kd.R_drew)); exact HO113.out) hb); have n1_ := Aside0.mk (below_step z10_ hb); clear HO113; clear HB; have HO113 := n0_; have HB := n1_; clear n0_ n1_; (try clear hb); (try clear hb2); (try clear hk); (try clear hi)))
  go_ret2
  exact ⟨z24_, z10_⟩
def whole_opposite.f (a0 : ByteArray) : Option (ByteArray) := (whole_sign.f a0).bind fun t121 => (if t121 = 0 then (some a0) else (if t121 = 1 then (if 1 + a0.size ≤ 9223372036854775807 then (some ((⟨#[45]⟩ : ByteArray) ++ a0)) else (none)) else (if 1 ≤ (a0.size : Int) then (some (a0.extract 1 a0.size)) else (none))))
set_option maxHeartbeats 8000000 in
set_option maxRecDepth 100000 in
theorem whole_opposite.calls (a0 : ByteArray) (r : ByteArray) (w : World) (h : whole_opposite.f a0 = some r) :
  Calls Tryz.prog 149 #[.string a0] w fun e w' => e = .returned (.string r) ∧ Drawn0 w w' := by
 have H : ((whole_sign.f a0).bind fun t121 => (if t121 = 0 then (some a0) else (if t121 = 1 then (if 1 + a0.size ≤ 9223372036854775807 then (some ((⟨#[45]⟩ : ByteArray) ++ a0)) else (none)) else (if 1 ≤ (a0.size : Int) then (some (a0.extract 1 a0.size)) else (none))))) = some r := h
 clear h
 obtain ⟨t121, A2, H⟩ := bindA H
 by_cases c3 : t121 = 0
 ·rw [if_pos c3] at H
  have c3b0 := beq_iff_eq.mpr c3
  have c3b1 := bne_eq_false_iff_eq.mpr c3
  clear c3
  obtain rfl := Option.some.inj H
  go_enter Tryz.func149, Tryz.ntmps149
  go_wp2_with (first | (refine gz (f := 111) rfl (some 4) rfl Tryz.func111 (whole_sign.calls a0 t121 _ A2.out) ?_; rintro w' ⟨nd, rfl⟩))
  go_ret
  exact ⟨by first | rfl | (simp; done) | (simp [*]; done), by repeat (first | exact Drawn0.refl _ | apply Drawn0.step)⟩
 ·rw [if_neg c3] at H
  have c3b0 := beq_eq_false_iff_ne.mpr c3
  have c3b1 := bne_iff_ne.mpr c3
  by_cases c4 : t121 = 1
  ·rw [if_pos c4] at H
   have c4b0 := beq_iff_eq.mpr c4
   have c4b1 := bne_eq_false_iff_eq.mpr c4
   clear c4
   by_cases c5 : 1 + a0.size ≤ 9223372036854775807
   ·rw [if_pos c5] at H
    have c5b0 := eq_true c5
    have c5b1 : decide (1 + a0.size ≤ 9223372036854775807) = true := decide_eq_true c5
    try have c5b2 : (9223372036854775807 < 1 + a0.size) = False := eq_false (Nat.not_lt.2 c5)
    obtain rfl := Option.some.inj H
    go_enter Tryz.func149, Tryz.ntmps149
    go_wp2_with (first | (refine gz (f := 111) rfl (some 4) rfl Tryz.func111 (whole_sign.calls a0 t121 _ A2.out) ?_; rintro w' ⟨nd, rfl⟩))
    go_ret
    exact ⟨by first | rfl | (simp; done) | (simp [*]; done), by repeat (first | exact Drawn0.refl _ | apply Drawn0.step)⟩
   ·rw [if_neg c5] at H
    exact absurd H (by simp)
  ·rw [if_neg c4] at H
   have c4b0 := beq_eq_false_iff_ne.mpr c4
   have c4b1 := bne_iff_ne.mpr c4
   by_cases c6 : 1 ≤ (a0.size : Int)
   ·rw [if_pos c6] at H
    have c6b0 := eq_true c6
    have c6b1 : decide (1 ≤ (a0.size : Int)) = true := decide_eq_true c6
    clear c6
    obtain rfl := Option.some.inj H
    go_enter Tryz.func149, Tryz.ntmps149
    go_wp2_with (first | (refine gz (f := 111) rfl (some 4) rfl Tryz.func111 (whole_sign.calls a0 t121 _ A2.out) ?_; rintro w' ⟨nd, rfl⟩))
    go_ret
    exact ⟨by first | rfl | (simp; done) | (simp [*]; done), by repeat (first | exact Drawn0.refl _ | apply Drawn0.step)⟩
   ·rw [if_neg c6] at H
    exact absurd H (by simp)
def whole_result.f (a0 : Int) : Option (ByteArray × Int) := (whole_Of.f a0).bind fun t122 => (some (t122, 0))
set_option maxHeartbeats 8000000 in
set_option maxRecDepth 100000 in
theorem whole_result.calls (a0 : Int) (r1 : ByteArray) (r2 : Int) (w : World) (h : whole_result.f a0 = some (r1, r2)) (HT : Aside0 (Tabs w)) :
  Calls Tryz.prog 115 #[.int .i64 a0] w fun e w' => e = .returned (.tuple #[.string r1, .int .i64 r2]) ∧ Below w.heap.size w w' := by
 have HB := Aside0.mk (Below.refl w.heap.size w)
 have H : ((whole_Of.f a0).bind fun t122 => (some (t122, 0))) = some (r1, r2) := h
 clear h
 obtain ⟨t122, A2, H⟩ := bindA H
 simp only [Option.some.injEq, Prod.mk.injEq] at H
 obtain ⟨rfl, rfl⟩ := H
 go_enter Tryz.func115, Tryz.ntmps115
 go_wp2_with (first | (refine gy (f := 79) rfl (some 5) rfl Tryz.func79 (whole_Of.calls a0 t122 _ A2.out (Aside0.mk (Tabs.below HT.out z4_))) z10_ ?_; clear HB; intro w3 HB))
 go_ret2
 exact ⟨z24_, z10_⟩
end Go.Proofs.YtkdpcgmnkifbbaaGreatDoor.C
end
section
namespace Go.Proofs.YtkdpcgmnkifbbaaGreatDoor
open Go.RowKit Go.Proofs.YtkdpcgmnkifbbaaGreatDoorW.PrintWords Go.Proofs.YtkdpcgmnkifbbaaGreatDoorW.PrintMore
theorem bt_nat (s : ByteArray) (i : Nat) (h : i < s.size) : bt s i = ((s.data.toList.getD i 0).toNat : Int) := by
 unfold bt
 rw [dif_pos (by simpa using h)]
 have h2 : i < s.data.toList.length := by rw [← Lib.size_eq]; exact h
 simp [List.getD, List.getElem?_eq_getElem h2, ByteArray.getElem_eq_getElem_data]
theorem bt_head (s : ByteArray) (h : 0 < s.size) (c : UInt8) : bt s 0 = (c.toNat : Int) ↔ s.data.toList.head? = some c := by
 have := bt_nat s 0 h
 rw [show ((0 : Nat) : Int) = 0 from rfl] at this
 rw [this]
 have h2 : 0 < s.data.toList.length := by rw [← Lib.size_eq]; exact h
 cases hl : s.data.toList with
 | nil => rw [hl] at h2; simp at h2
 | cons a t =>
  simp only [List.getD_cons_zero, List.head?_cons, Option.some.injEq]
  constructor
  ·intro h; exact UInt8.toNat_inj.1 (by omega)
  ·rintro rfl; rfl
theorem digs_size (a : ByteArray) : (⟨(digs a.data.toList).toArray⟩ : ByteArray).size = (digs a.data.toList).length := by
 rw [Lib.size_eq]
theorem trimPrefix_f (a : ByteArray) : C.strings_TrimPrefix.f a (⟨#[45]⟩ : ByteArray) = some ⟨(digs a.data.toList).toArray⟩ := by
 have hs1 : ((⟨#[45]⟩ : ByteArray).size : Int) = 1 := rfl
 have hs2 : (⟨#[45]⟩ : ByteArray).size = 1 := rfl
 unfold C.strings_TrimPrefix.f C.stringslite_TrimPrefix.f C.stringslite_HasPrefix.f
 rw [hs1]
 have e1 : ((1 : Int)).toNat = 1 := rfl
 by_cases h : (a.size : Int) ≥ 1
 ·rw [if_pos h, if_pos (by decide), if_pos h, if_pos (by decide), if_pos h, e1]
  have hl : 0 < a.data.toList.length := by rw [← Lib.size_eq]; omega
  rw [Lib.extract_toList, Lib.toList_data, Lib.extract_eq a]
  obtain ⟨c, t, hc⟩ : ∃ c t, a.data.toList = c :: t := by
   cases h0 : a.data.toList with
   | nil => rw [h0] at hl; simp at hl
   | cons c t => exact ⟨c, t, rfl⟩
  have hsz : a.size = t.length + 1 := by rw [Lib.size_eq, hc]; rfl
  rw [hc]
  by_cases h45 : c = 45
  ·subst h45
   simp [digs, hsz]
  ·have : ¬ ([c] : List UInt8) = [45] := by simpa using h45
   simp only [Option.bind_some, List.drop_zero, Nat.sub_zero, List.take_succ_cons, List.take_zero, beq_iff_eq, this, if_false]
   unfold digs
   rw [if_neg (by simpa using h45), ← hc, Lib.mk_data]
 ·rw [if_neg h]
  have hl : a.data.toList = [] := by
   apply List.eq_nil_of_length_eq_zero; rw [← Lib.size_eq]; omega
  simp only [Option.bind_some, Bool.false_eq_true, if_false]
  unfold digs
  rw [if_neg (by rw [hl]; simp), Lib.mk_data]
theorem trimS_nil (l cs : List UInt8) : Lib.trimS l cs = [] ↔ l.all (cs.contains ·) = true := by
 unfold Lib.trimS Lib.trimLeftS Lib.trimRightS
 have e : ∀ m : List UInt8, m.dropWhile (cs.contains ·) = [] ↔ m.all (cs.contains ·) = true := by
  intro m
  induction m with
  | nil => simp
  | cons a t ih =>
   by_cases h : cs.contains a = true
   ·rw [List.dropWhile_cons_of_pos (by exact h), ih, List.all_cons, h, Bool.true_and]
   ·rw [List.dropWhile_cons_of_neg (by exact h), List.all_cons, Bool.eq_false_iff.2 h]; simp
 have e2 : ∀ m : List UInt8, (m.dropWhile (cs.contains ·)).all (cs.contains ·) = true → m.all (cs.contains ·) = true := by
  intro m
  induction m with
  | nil => simp
  | cons a t ih =>
   by_cases h : cs.contains a = true
   ·rw [List.dropWhile_cons_of_pos (by exact h), List.all_cons, h, Bool.true_and]; exact ih
   ·rw [List.dropWhile_cons_of_neg (by exact h)]; exact id
 rw [e]
 constructor
 ·intro h
  rw [List.all_reverse] at h
  have := e2 _ h
  rwa [List.all_reverse] at this
 ·intro h
  have h1 := (e l.reverse).2 (by rw [List.all_reverse]; exact h)
  rw [h1]; rfl
set_option maxRecDepth 100000 in
theorem isDig_contains (c : UInt8) : ([48, 49, 50, 51, 52, 53, 54, 55, 56, 57] : List UInt8).contains c = isDig c := by
 have : ∀ k : Fin 256, ([48, 49, 50, 51, 52, 53, 54, 55, 56, 57] : List UInt8).contains (UInt8.ofFin k) = isDig (UInt8.ofFin k) := by decide
 exact this c.toFin
theorem goodD_cons (c : UInt8) (t : List UInt8) : goodD (c :: t) = ((c :: t).all isDig && (c != 48 || t.isEmpty)) := by
 unfold goodD
 cases t <;> simp [bne]
theorem digs_len (l : List UInt8) : (digs l).length ≤ l.length := by unfold digs; split <;> simp
theorem lead_iff (l : List UInt8) (h1 : (digs l) ≠ []) (h48 : (digs l).head? = some 48) :
  (((digs l).length == 1) && !(l.head? == some 45 && (digs l).head? == some 48)) = decide (l = [48]) := by
 rw [h48]
 unfold digs at *
 by_cases h45 : l.head? = some 45
 ·have : l ≠ [48] := by rintro rfl; simp at h45
  simp [h45, this]
 ·rw [if_neg h45] at h48 h1 ⊢
  cases l with
  | nil => simp at h48
  | cons a t =>
   simp at h48; subst h48
   cases t <;> simp
theorem chk_nil {a : ByteArray} (h : digs a.data.toList = []) : chk a = 3 := by
 unfold chk form; rw [h]; rfl
theorem chk_bad {a : ByteArray} (h : (digs a.data.toList).all isDig = false) : chk a = 3 := by
 unfold chk form goodD; rw [h]; simp
theorem chk_lead {a : ByteArray} (h : (digs a.data.toList).head? = some 48) (h2 : a.data.toList ≠ [48]) : chk a = 3 := by
 have hne : digs a.data.toList ≠ [] := by intro h0; rw [h0] at h; cases h
 have := lead_iff a.data.toList hne h
 unfold chk form goodD
 rw [if_neg]
 rw [decide_eq_false h2] at this
 rw [h] at this ⊢
 simp only [Bool.and_eq_true, Bool.or_eq_true, bne_iff_ne, beq_iff_eq, ne_eq, not_true, false_or, not_and, Bool.not_eq_true', Bool.and_eq_false_imp] at *
 intro h3 h4
 simp_all
theorem chk_good {a : ByteArray} (h0 : digs a.data.toList ≠ []) (h : (digs a.data.toList).all isDig = true) (h2 : (digs a.data.toList).head? = some 48 → a.data.toList = [48]) : chk a = if (digs a.data.toList).length > 1024 then 11 else 0 := by
 have hf : form a.data.toList = true := by
  unfold form goodD
  rw [h]
  by_cases h48 : (digs a.data.toList).head? = some 48
  ·have h3 := lead_iff a.data.toList h0 h48
   rw [decide_eq_true (h2 h48)] at h3
   simp only [Bool.and_eq_true] at h3
   simp [h3.2, h0]
   exact .inr (by simpa using h3.1)
  ·simp [h0, h48]
 unfold chk; rw [if_pos hf]
theorem check_f (a : ByteArray) (hs : a.size ≤ 9223372036854775807) (k : Nat) : C.whole_Check.f (k + 2) a = some (chk a) := by
 unfold C.whole_Check.f
 rw [trimPrefix_f]
 simp only [Option.bind_some, Lib.toList_data]
 have hlen : (digs a.data.toList).length ≤ 9223372036854775807 := Nat.le_trans (digs_len _) (by rw [← Lib.size_eq]; exact hs)
 by_cases h0 : digs a.data.toList = []
 ·rw [if_pos h0, chk_nil h0]; rfl
 ·rw [if_neg h0]
  unfold C.strings_Trim.f
  rw [if_pos ⟨by rw [digs_size]; exact hlen, rfl⟩]
  simp only [Option.bind_some]
  rw [C.whole_Check.j0]
  by_cases hd : (digs a.data.toList).all isDig = true
  ·have hd2 : (digs a.data.toList).all (([48, 49, 50, 51, 52, 53, 54, 55, 56, 57] : List UInt8).contains ·) = true := by
    rw [show (([48, 49, 50, 51, 52, 53, 54, 55, 56, 57] : List UInt8).contains ·) = isDig from funext isDig_contains]; exact hd
   have h1 := (trimS_nil (digs a.data.toList) _).2 hd2
   have hne : ¬ ((Lib.trimS (digs a.data.toList) [48, 49, 50, 51, 52, 53, 54, 55, 56, 57] != []) = true) := by rw [h1]; decide
   rw [if_neg hne]
   have hpos : 0 < (⟨(digs a.data.toList).toArray⟩ : ByteArray).size := by rw [digs_size]; exact List.length_pos_iff.2 h0
   rw [if_pos (by omega)]
   have hb : bt ⟨(digs a.data.toList).toArray⟩ 0 = 48 ↔ (digs a.data.toList).head? = some 48 := bt_head ⟨(digs a.data.toList).toArray⟩ hpos 48
   by_cases h48 : (digs a.data.toList).head? = some 48
   ·rw [if_pos (hb.2 h48)]
    rw [C.whole_Check.j1]
    by_cases h2 : a.data.toList = [48]
    ·rw [Lib.toList_data, h2]
     simp only [bne_self_eq_false, Bool.false_eq_true, if_false]
     rw [chk_good h0 hd (fun _ => h2)]
     rw [h2]; rfl
    ·rw [if_pos (by rw [Lib.toList_data]; exact bne_iff_ne.2 h2), chk_lead h48 h2]
   ·rw [if_neg (fun h => h48 (hb.1 h))]
    rw [C.whole_Check.j1]
    rw [if_neg (by decide), chk_good h0 hd (fun h => absurd h h48), digs_size]
    by_cases h3 : (digs a.data.toList).length > 1024
    ·rw [if_pos (by omega), if_pos h3]
    ·rw [if_neg (by omega), if_neg h3]
  ·have hd2 : ¬ (digs a.data.toList).all (([48, 49, 50, 51, 52, 53, 54, 55, 56, 57] : List UInt8).contains ·) = true := by
    rw [show (([48, 49, 50, 51, 52, 53, 54, 55, 56, 57] : List UInt8).contains ·) = isDig from funext isDig_contains]; exact hd
   have h1 := mt (trimS_nil (digs a.data.toList) _).1 hd2
   rw [if_pos (bne_iff_ne.2 h1), chk_bad (Bool.eq_false_iff.2 hd)]
theorem check_calls (a : ByteArray) (hs : a.size ≤ 9223372036854775807) (w : World) :
  Calls Tryz.prog 48 #[.string a] w fun e w' => e = .returned (.int .i64 (chk a)) ∧ Below w.heap.size w w' := C.whole_Check.calls 2 a (chk a) w (check_f a hs 0)
def chks : List ByteArray → Int
 | [] => 0
 | a :: l => if chk a = 0 then chks l else chk a
theorem all_l0 (l : List ByteArray) (hs : ∀ a ∈ l, a.size ≤ 9223372036854775807) (hn : l.length ≤ 4611686018427387904) (i k : Nat) (hi : i ≤ l.length) (hk : l.length - i + 3 ≤ k) : C.whole_all.l0 k l (l.length : Int) (i : Int) = some (chks (l.drop i)) := by
 induction k generalizing i with
 | zero => omega
 | succ k ih =>
  rw [C.whole_all.l0]
  by_cases h : i < l.length
  ·rw [if_pos (by omega), if_pos (by omega), if_pos (by omega)]
   have e1 : rdOf ByteArray.empty l (i : Int) = l[i] := by simp [rdOf, List.getD, List.getElem?_eq_getElem h]
   obtain ⟨j, rfl⟩ : ∃ j, k = j + 2 := ⟨k - 2, by omega⟩
   rw [e1, check_f _ (hs _ (List.getElem_mem h)) j, Option.bind_some, List.drop_eq_getElem_cons h]
   unfold chks
   by_cases h0 : chk l[i] = 0
   ·rw [if_pos h0, if_pos h0]
    have := ih (i + 1) (by omega) (by omega)
    rw [← this, IntWalk.wrap64_in _ (by omega)]; rfl
   ·rw [if_neg h0, if_neg h0]
  ·rw [if_neg (by omega), List.drop_eq_nil_of_le (by omega)]; rfl
theorem all_f (l : List ByteArray) (hs : ∀ a ∈ l, a.size ≤ 9223372036854775807) (hn : l.length ≤ 4611686018427387904) (k : Nat) (hk : l.length + 3 ≤ k) : C.whole_all.f k l = some (chks l) := by
 have := all_l0 l hs hn 0 k (by omega) (by omega)
 exact this
end Go.Proofs.YtkdpcgmnkifbbaaGreatDoor
end
section
namespace Go.Proofs.YtkdpcgmnkifbbaaGreatDoor
open Go.RowKit Go.Proofs.YtkdpcgmnkifbbaaGreatDoorW.PrintWords Go.Proofs.YtkdpcgmnkifbbaaGreatDoorW.PrintMore
theorem dnat_app (l m : List UInt8) : dnat (l ++ m) = dnat l * 10 ^ m.length + dnat m := by
 induction m using revInd with
 | nil => simp [dnat]
 | append t c ih =>
  rw [← List.append_assoc, dnat_append, dnat_append, ih, List.length_append, List.length_singleton, Nat.pow_succ, ← Nat.mul_assoc]
  omega
theorem dnat_lt {l : List UInt8} (h : l.all isDig = true) : dnat l < 10 ^ l.length := by
 induction l using revInd with
 | nil => simp [dnat]
 | append t c ih =>
  rw [List.all_append, Bool.and_eq_true] at h
  obtain ⟨u, hu, _, hv⟩ := isDig_val (by simpa using h.2)
  have := ih h.1
  rw [dnat_append, hv, List.length_append, List.length_singleton, Nat.pow_succ]; omega
theorem digitVal_of {c : UInt8} (h : isDig c = true) : Lib.digitVal c = some (c.toNat - 48) := by
 unfold isDig at h
 simp only [Bool.and_eq_true, decide_eq_true_eq] at h
 unfold Lib.digitVal; rw [if_pos h]
theorem decFrom_dnat (l : List UInt8) (h : l.all isDig = true) (acc : Nat) : Lib.decFrom acc l = some (l.foldl (fun m c => 10 * m + (c.toNat - 48)) acc) := by
 induction l generalizing acc with
 | nil => rfl
 | cons c t ih =>
  rw [List.all_cons, Bool.and_eq_true] at h
  rw [Lib.decFrom, digitVal_of h.1]
  simp only
  rw [ih h.2, List.foldl_cons, Nat.mul_comm]
theorem atoi_digits {l : List UInt8} (h : l.all isDig = true) (h0 : l ≠ []) : Lib.atoi l = some (dnat l : Int) := by
 cases l with
 | nil => exact absurd rfl h0
 | cons c t =>
  have hc : isDig c = true := by rw [List.all_cons, Bool.and_eq_true] at h; exact h.1
  have h1 : (c == 45) = false := by rw [beq_eq_false_iff_ne]; rintro rfl; simp [isDig] at hc
  have h2 : (c == 43) = false := by rw [beq_eq_false_iff_ne]; rintro rfl; simp [isDig] at hc
  unfold Lib.atoi Lib.decNat
  simp only [h1, h2, Bool.false_eq_true, if_false, List.isEmpty_cons]
  rw [decFrom_dnat _ h]; rfl
theorem all_take {l : List UInt8} (h : l.all isDig = true) (n : Nat) : (l.take n).all isDig = true := by
 rw [List.all_eq_true] at *; exact fun x hx => h x (List.mem_of_mem_take hx)
theorem all_drop {l : List UInt8} (h : l.all isDig = true) (n : Nat) : (l.drop n).all isDig = true := by
 rw [List.all_eq_true] at *; exact fun x hx => h x (List.mem_of_mem_drop hx)
theorem pow9 (i : Nat) : 10 ^ (9 * i) = BB ^ i := by rw [Nat.pow_mul, BB_pow]
theorem dnat_take {D : List UInt8} (h : D.all isDig = true) {i r : Nat} (hr : 9 * i + r = D.length) : dnat (D.take r) = dnat D / BB ^ i := by
 have h1 := dnat_app (D.take r) (D.drop r)
 rw [List.take_append_drop, List.length_drop, show D.length - r = 9 * i by omega, pow9] at h1
 have h2 := dnat_lt (all_drop h r)
 rw [List.length_drop, show D.length - r = 9 * i by omega, pow9] at h2
 rw [h1, Nat.mul_comm, Nat.mul_add_div (BB_pos i), Nat.div_eq_of_lt h2, Nat.add_zero]
theorem dnat_piece {D : List UInt8} (h : D.all isDig = true) {i r : Nat} (hr : 9 * i + r = D.length) : dnat ((D.take r).drop (r - 9)) = wd (dnat D) i := by
 have h1 := dnat_app ((D.take r).take (r - 9)) ((D.take r).drop (r - 9))
 rw [List.take_append_drop, dnat_take h hr] at h1
 have h2 := dnat_lt (all_drop (all_take h r) (r - 9))
 have hl : ((D.take r).drop (r - 9)).length = min 9 r := by
  rw [List.length_drop, List.length_take]; omega
 rw [hl] at h1 h2
 unfold wd
 have hBB : BB = 10 ^ 9 := BB_pow.symm
 rcases Nat.lt_or_ge r 9 with h9 | h9
 ·have h3 : (D.take r).take (r - 9) = [] := by rw [show r - 9 = 0 by omega]; rfl
  rw [h3, show dnat [] = 0 from rfl, Nat.zero_mul, Nat.zero_add] at h1
  rw [h1, Nat.mod_eq_of_lt]
  refine Nat.lt_of_lt_of_le h2 ?_
  rw [hBB]; exact Nat.pow_le_pow_right (by decide) (by omega)
 ·rw [show min 9 r = 9 by omega, ← hBB] at h1 h2
  rw [h1, Nat.mul_comm, Nat.mul_add_mod, Nat.mod_eq_of_lt h2]
theorem lt_BB {m L k : Nat} (h : m < 10 ^ L) (h2 : L ≤ 9 * k) : m < BB ^ k := by
 rw [← pow9]; exact Nat.lt_of_lt_of_le h (Nat.pow_le_pow_right (by decide) h2)
theorem dnat_zero_words {D : List UInt8} (h : D.all isDig = true) {i : Nat} (hi : D.length ≤ 9 * i) (j : Nat) (hj : i ≤ j) : wd (dnat D) j = 0 := by
 have h1 := dnat_lt h
 have h2 : 10 ^ D.length ≤ 10 ^ (9 * j) := Nat.pow_le_pow_right (by decide) (by omega)
 rw [pow9] at h2
 unfold wd
 rw [Nat.div_eq_of_lt (by omega), Nat.zero_mod]
def RdAt (w : World) (b : Nat) (s : Bool) (m i : Nat) : Prop := ∃ ws, Wd w b s i ws ∧ ∀ j, j < 232 → ws.getD j 0 = if j < i then (wd m j : Int) else 0
theorem RdAt.below {w w' : World} {b : Nat} {s : Bool} {m i : Nat} (h : RdAt w b s m i) (hb : Below w.heap.size w w') : RdAt w' b s m i := by
 obtain ⟨ws, h1, h2⟩ := h
 exact ⟨ws, h1.grown (c := none) ⟨hb.os, hb.tape, hb.output, hb.size, fun i hi _ => hb.block i hi⟩ (by simp), h2⟩
theorem RdAt.c1 {w : World} {b : Nat} {s : Bool} {m i : Nat} (h : RdAt w b s m i) : w.cell? ⟨b, 1, none⟩ = some (.int .i64 i) := h.choose_spec.1.c1
theorem RdAt.fz {w : World} {b : Nat} {s : Bool} {m i : Nat} (h : RdAt w b s m i) (j : Nat) : w.frozen? ⟨b, j, none⟩ = false := h.choose_spec.1.fz j
theorem RdAt.cw {w : World} {b : Nat} {s : Bool} {m i : Nat} (h : RdAt w b s m i) (hi : i < 232) : w.cell? ⟨b, 2 + i, none⟩ = some (.int .i64 0) := by
 obtain ⟨ws, h1, h2⟩ := h
 rw [h1.cw i hi, h2 i hi, if_neg (by omega)]
theorem RdAt.blt {w : World} {b : Nat} {s : Bool} {m i : Nat} (h : RdAt w b s m i) : b < w.heap.size := h.choose_spec.1.lt
theorem RdAt.step {w : World} {b : Nat} {s : Bool} {m i : Nat} (h : RdAt w b s m i) (hi : i < 232) : RdAt ((w.setCell ⟨b, 2 + i, none⟩ (.int .i64 (wd m i))).setCell ⟨b, 1, none⟩ (.int .i64 ((i : Int) + 1))) b s m (i + 1) := by
 obtain ⟨ws, h1, h2⟩ := h
 refine ⟨ws.set i (wd m i), (h1.setw i _).setn _, fun j hj => ?_⟩
 have hl := h1.len
 by_cases hji : j = i
 ·subst hji
  rw [if_pos (by omega)]
  simp [List.getD, List.getElem?_set, hl, hj]
 ·have h3 := h2 j hj
  simp only [List.getD, List.getElem?_set] at h3 ⊢
  rw [if_neg (by omega), h3]
  by_cases h4 : j < i
  ·rw [if_pos h4, if_pos (by omega)]
  ·rw [if_neg h4, if_neg (by omega)]
theorem RdAt.mid {w : World} {b : Nat} {s : Bool} {m i : Nat} (h : RdAt w b s m i) (v : Int) : (w.setCell ⟨b, 2 + i, none⟩ (.int .i64 v)).cell? ⟨b, 1, none⟩ = some (.int .i64 (i : Int)) ∧ (w.setCell ⟨b, 2 + i, none⟩ (.int .i64 v)).frozen? ⟨b, 1, none⟩ = false := by
 obtain ⟨ws, h1, h2⟩ := h
 exact ⟨(h1.setw i v).c1, (h1.setw i v).fz 1⟩
theorem below_set {B : Nat} {w0 w : World} (h : Below B w0 w) {b : Nat} (hb : B ≤ b) (j : Nat) (v : Value) : Below B w0 (w.setCell ⟨b, j, none⟩ v) := h.setCell (p := ⟨b, j, none⟩) hb v
theorem RdAt.fresh (w : World) (s : Bool) (m : Nat) : RdAt (w.alloc (.cells (Tryz.zeroCells119.setIfInBounds 0 (.bool s)) 119)) w.heap.size s m 0 := by
 refine ⟨wds 0, ?_, fun j hj => ?_⟩
 ·have := (Mg.fresh w s).at_
  rw [nw_zero] at this; exact this
 ·rw [wds_get 0 j hj, wd_zero_of_ge (by rw [nw_zero]; omega), if_neg (by omega)]; rfl
theorem atoi_calls (s : ByteArray) (n : Int) (hl : s.size ≤ 18) (h : Lib.atoi s.data.toList = some n) (w : World) :
  Calls Tryz.prog 130 #[.string s] w fun e w' => e = .returned (.tuple #[.int .i64 n, .nilIface]) ∧ Below w.heap.size w w' := by
 refine (Tryz.strconv_Atoi s n hl h w).mono ?_
 rintro e w' ⟨rfl, t, rfl⟩
 exact ⟨rfl, Lib.bytesWorld_below w _ t⟩
theorem below_draw1 {w w' : World} (h : Below w.drew.heap.size w.drew w') : Below w.heap.size w w' := ((Below.refl _ _).drew).trans h
def ReadPost (w : World) (a : ByteArray) (e : Ending) (w' : World) : Prop := e = .returned (.pointer (some ⟨w.heap.size, 0, none⟩)) ∧ Mg w' w.heap.size (decide (ival a < 0)) (ival a).natAbs ∧ Below w.heap.size w w'
theorem form_head (a : ByteArray) (h : form a.data.toList = true) : (a.data.toList.head? = some 45) ↔ ival a < 0 := by
 have h1 := form_eq h
 have h2 := itx_head (ival a)
 rwa [← h1] at h2
theorem form_ival (a : ByteArray) (h : form a.data.toList = true) : (ival a).natAbs = dnat (digs a.data.toList) := by
 unfold ival; split <;> omega
set_option maxHeartbeats 2000000 in
set_option maxRecDepth 100000 in
theorem read_calls (a : ByteArray) (h : chk a = 0) (w : World) :
  Calls Tryz.prog 93 #[.string a] w (ReadPost w a) := by
 have hf : form a.data.toList = true := by
  unfold chk at h; split at h
  ·assumption
  ·cases h
 have hlen : (digs a.data.toList).length ≤ 1024 := by
  unfold chk at h; rw [if_pos hf] at h
  rcases Nat.lt_or_ge 1024 (digs a.data.toList).length with h1 | h1
  ·rw [if_pos h1] at h; cases h
  ·exact h1
 have hgood : goodD (digs a.data.toList) = true := by unfold form at hf; rw [Bool.and_eq_true] at hf; exact hf.1
 have hall : (digs a.data.toList).all isDig = true := by unfold goodD at hgood; simp only [Bool.and_eq_true] at hgood; exact hgood.1.2
 have hne : digs a.data.toList ≠ [] := by unfold goodD at hgood; simp at hgood; exact hgood.1.1
 have hsz : 0 < a.size := by
  rw [Lib.size_eq]
  exact Nat.lt_of_lt_of_le (List.length_pos_iff.2 hne) (digs_len _)
 have hbt : (bt a 0 == 45) = decide (ival a < 0) := by
  rw [Bool.eq_iff_iff, beq_iff_eq, decide_eq_true_iff, ← form_head a hf]
  exact bt_head a hsz 45
 have HNA := Lib.hid (form_ival a hf)
 have HF := Lib.hid hf; clear hf h hgood hne
 have htp := trimPrefix_f a
 have HTP := Lib.hid htp; clear htp
 obtain ⟨D, hD⟩ : ∃ D, D = digs a.data.toList := ⟨_, rfl⟩
 rw [← hD] at hlen hall HTP HNA
 clear hD
 have HALL := Lib.hid hall; clear hall
 obtain ⟨s, hs⟩ : ∃ s, s = decide (ival a < 0) := ⟨_, rfl⟩
 rw [← hs] at hbt
 have HSG := Lib.hid hs; clear hs
 have p4 : (0 < (a.size : Int)) = True := eq_true (by omega)
 have hx4 : ∀ h : 0 < a.size, ((a[0]'h).toNat : Int) = bt a 0 := bt_at a 0
 replace hsz := eq_true hsz
 go_enter Tryz.func93, Tryz.ntmps93
 go_wp2_with fail
 refine (C.strings_TrimPrefix.calls a ⟨#[45]⟩ ⟨D.toArray⟩ _ HTP.out).mono ?_
 rintro e w1 ⟨rfl, n1, rfl⟩
 have hr1 : RdAt ((w.alloc (.cells (Tryz.zeroCells119.setIfInBounds 0 (.bool s)) 119)).drewN n1) w.heap.size s (dnat D) 0 := (RdAt.fresh w s _).below (pw_below_drewN (Below.refl _ _) _)
 have hb1 : Below w.heap.size w ((w.alloc (.cells (Tryz.zeroCells119.setIfInBounds 0 (.bool s)) 119)).drewN n1) := pw_below_drewN ((Below.refl _ _).alloc (Nat.le_refl _) _) _
 generalize ((w.alloc (.cells (Tryz.zeroCells119.setIfInBounds 0 (.bool s)) 119)).drewN n1) = w1 at hr1 hb1 ⊢
 have HR1 := Lib.hid hr1; clear hr1
 have HB1 := Lib.hid hb1; clear hb1
 obtain ⟨S, hS⟩ : ∃ S : ByteArray, S = ⟨D.toArray⟩ := ⟨_, rfl⟩
 rw [← hS]
 have hS1 : S.data.toList = D := by rw [hS]
 have HS := Lib.hid hS1; clear hS1 hS
 go_wp2
 go_loopg [3] S.size (fun g v wr => ∃ (i : Nat) (T : ByteArray), v = .string T ∧ T.size = g ∧ i ≤ 114 ∧ Hid (T.data.toList = D.take g) ∧ Hid (9 * i + g = D.length ∨ (g = 0 ∧ D.length ≤ 9 * i)) ∧ Hid (RdAt wr w.heap.size s (dnat D) i) ∧ Hid (Below w.heap.size w wr))
 case atStart => exact ⟨0, S, rfl, rfl, by omega, Lib.hid (by rw [Lib.size_eq, HS.out, List.take_length]), Lib.hid (.inl (by rw [Lib.size_eq, HS.out]; omega)), HR1, HB1⟩
 case round =>
  obtain ⟨i, T, rfl, hT, hi, HT, HI, HR, HB⟩ := hrel
  have hi232 : (i : Int) < 232 := by omega
  have hi0 : (0 : Int) ≤ (i : Int) := by omega
  have c1 := HR.out.c1
  have hlt := HR.out.blt
  rcases Nat.eq_zero_or_pos gk with h0 | h0
  ·subst h0
   have hT2 : (T.size : Int) = 0 := by omega
   go_wp2_with fail
   have hi3 : D.length ≤ 9 * i := by have := HI.out; omega
   obtain ⟨ws, hw1, hw2⟩ := HR.out
   have hm := dnat_lt HALL.out
   refine (trimmed_num w.heap.size s i (dnat D) ws wr hw1 (by omega) (lt_BB hm (by omega)) (fun j hj => ?_) (fun j hj => dnat_zero_words HALL.out hi3 j hj)).mono ?_
   ·rw [hw2 j hj]
    by_cases h1 : j < i
    ·rw [if_pos h1]
    ·rw [if_neg h1, dnat_zero_words HALL.out hi3 j (by omega)]; rfl
   rintro e w3 ⟨rfl, h1, h2⟩
   have H1 := Lib.hid h1; clear h1
   have H2 := Lib.hid (below_gby HB.out (Nat.le_refl _) HB.out.size h2); clear h2 hw1 hw2 hm
   go_wp2
   go_ret
   exact ⟨rfl, by rw [HNA.out, ← HSG.out]; exact H1.out, H2.out⟩
  ·have hT2 : (T.size : Int) > 0 := by omega
   have hTn : T.size ≤ 1024 := by
    have h1 := HT.out
    rw [Lib.size_eq, h1, List.length_take]; omega
   have hgT : gk ≤ 1024 := by omega
   go_wp2_with fail
   obtain ⟨f, hf⟩ : ∃ f : Nat, f = gk - 9 := ⟨_, rfl⟩
   have e1 : max 0 ((gk : Int) - 9) = (f : Int) := by omega
   rw [e1]
   clear e1
   have hfT : (f : Int) ≤ (T.size : Int) := by omega
   have hf0 : (0 : Int) ≤ (f : Int) := by omega
   have hfn : f ≤ T.size := by omega
   have hI : 9 * i + gk = D.length := by have := HI.out; omega
   have hpl : (T.extract f T.size).data.toList = (D.take gk).drop (gk - 9) := by
    rw [Lib.extract_data, HT.out, ← hf, hT, List.take_of_length_le]
    rw [List.length_drop, List.length_take]; omega
   have hps : (T.extract f T.size).size ≤ 18 := by rw [ByteArray.size_extract]; omega
   have hpa : Lib.atoi (T.extract f T.size).data.toList = some (wd (dnat D) i : Int) := by
    rw [hpl, atoi_digits (all_drop (all_take HALL.out gk) (gk - 9)) (by
     intro h1
     have h2 := congrArg List.length h1
     rw [List.length_drop, List.length_take, List.length_nil] at h2; omega), dnat_piece HALL.out hI]
   have HPS := Lib.hid hps; clear hps hpl
   have HFE := Lib.hid hf; clear hf
   have HTS := Lib.hid hT; clear hT
   have HPA := Lib.hid hpa; clear hpa
   have hwd := wd_lt (dnat D) i
   have hst := HR.out
   have cw := hst.cw (by omega)
   have fz := hst.fz (2 + i)
   clear hst
   generalize hv : (wd (dnat D) i : Int) = v at HPA
   have HV := Lib.hid hv; clear hv hwd
   go_region_with (go_at_call 130; refine (atoi_calls (T.extract f T.size) v HPS.out HPA.out wr.drew).mono ?_; rintro e w5 ⟨rfl, hb5⟩; have hr5 := HR.out.below (w' := w5) (below_draw1 hb5); have k1 := hr5.c1; have k2 := hr5.fz (2 + i); have k3 := hr5.cw (by omega); have HR5 := Lib.hid hr5; clear hr5; have HB5 := Lib.hid (below_draw1 hb5); clear hb5)
   all_goals (
    have hs5 := HR5.out.step (by omega)
    rw [HV.out] at hs5
    obtain ⟨g1, g2⟩ := HR5.out.mid v
    have hb6 : Below w.heap.size w ((w5.setCell ⟨w.heap.size, 2 + i, none⟩ (.int .i64 v)).setCell ⟨w.heap.size, 1, none⟩ (.int .i64 ((i : Int) + 1))) :=
     below_set (below_set (below_then HB.out HB.out.size HB5.out) (Nat.le_refl _) _ _) (Nat.le_refl _) _ _
    generalize (w5.setCell ⟨w.heap.size, 2 + i, none⟩ (.int .i64 v)) = w6 at hs5 g1 g2 hb6 ⊢
    have HS5 := Lib.hid hs5; clear hs5
    have HB6 := Lib.hid hb6; clear hb6
    clear k1 k2 k3 cw fz c1
    go_wp2
    go_roundg f
    case measure => have := HFE.out; omega
    case rel => exact ⟨i + 1, T.extract 0 f, by first | rfl | (congr 2; simp), by rw [ByteArray.size_extract]; omega, by have := HFE.out; omega, Lib.hid (by have h1 := HFE.out; have h2 := HT.out; rw [Lib.extract_data, h2, List.drop_zero, Nat.sub_zero, List.take_take]; congr 1; omega), Lib.hid (by have := HFE.out; omega), HS5, HB6⟩)
end Go.Proofs.YtkdpcgmnkifbbaaGreatDoor
end
section
namespace Go.Proofs.YtkdpcgmnkifbbaaGreatDoor
open Go.RowKit
theorem itoa_calls (n : Int) (h0 : -9223372036854775808 ≤ n) (h1 : n ≤ 9223372036854775807) (w : World) (ht : Tabs w) :
  Calls Tryz.prog 119 #[.int .i64 n] w fun e w' => e = .returned (.string (itx n)) ∧ Below w.heap.size w w' := by
 refine (Tryz.strconv_Itoa n h0 h1 w ht).mono ?_
 rintro e w' ⟨rfl, k, os, rfl⟩
 exact ⟨rfl, Lib.below_grow _ w (Nat.le_refl _) k os⟩
theorem IsB.below {T e : TypeId} {B b : Nat} {bs : List Value} {W W' : World} (h : Lib.IsBuilderF T e B b bs W) (hb : Below W.heap.size W W') : Lib.IsBuilderF T e B b bs W' := by
 have key : ∀ p, Lib.BuilderAtF T e B b p bs W → Lib.BuilderAtF T e B b p bs W' := by
  intro p h
  have hlt := h.lt
  obtain ⟨hB, v, hbk, hown, hne⟩ := h
  refine ⟨hB, v, by rw [hb.block b hlt]; exact hbk, hown.kept (row := none) ⟨hb.os, hb.tape, hb.output, hb.size, fun i hi _ => hb.block i hi⟩ (by cases v.ownBlock <;> simp), hne⟩
 exact h.imp (key _) (key _)
theorem itx_zero : itx 0 = ⟨#[48]⟩ := by
 unfold itx Lib.itoa; rw [if_neg (by omega), dd_small (by decide)]; rfl
theorem itx_size_le (v : Int) (h0 : -9223372036854775808 ≤ v) (h1 : v ≤ 9223372036854775807) : (itx v).size ≤ 21 := by
 have := Lib.itoa_length_le v h0 h1
 simpa [itx, ByteArray.size] using this
theorem text_end_false (m : Nat) (h : ¬ m = 0) : Ending.returned (.string ⟨([] ++ Lib.decDigits m).toArray⟩) = Ending.returned (.string (itx (sg false m))) := by
 unfold sg itx; rw [if_neg (by decide), itoa_nat]; rfl
theorem text_end_true (m : Nat) (h : ¬ m = 0) : Ending.returned (.string ⟨([45] ++ Lib.decDigits m).toArray⟩) = Ending.returned (.string (itx (sg true m))) := by
 unfold sg itx Lib.itoa; rw [if_pos rfl, if_pos (by omega), show (-(m : Int)).natAbs = m by omega]; rfl
theorem nine (u : Int) {v : Nat} (h : u = (v : Int)) (hv : v < 1000000000) : (itx u).size ≤ 9 := by
 subst h
 have := (pad_eq 8 v hv).1
 rw [← itoa_nat] at this
 simpa [itx, ByteArray.size] using this
theorem Tabs.drew {w : World} (h : Tabs w) : Tabs w.drew := h.below ((Below.refl _ _).drew)
theorem IsB.drew {T e : TypeId} {B b : Nat} {bs : List Value} {W : World} (h : Lib.IsBuilderF T e B b bs W) : Lib.IsBuilderF T e B b bs W.drew := h.imp Lib.BuilderAtF.drew Lib.BuilderAtF.drew
theorem zeros9 (k : Nat) (hk : k ≤ 9) : (({ data := #[48, 48, 48, 48, 48, 48, 48, 48, 48] } : ByteArray).extract k 9).data.toList = List.replicate (9 - k) 48 := by
 have : ∀ k : Fin 10, (({ data := #[48, 48, 48, 48, 48, 48, 48, 48, 48] } : ByteArray).extract k.val 9).data.toList = List.replicate (9 - k.val) 48 := by decide
 exact this ⟨k, by omega⟩
theorem pad_str {m g : Nat} (u : Int) (h : (wd m g : Int) = u) : (({ data := #[48, 48, 48, 48, 48, 48, 48, 48, 48] } : ByteArray).extract (itx u).size 9 ++ itx u).data.toList = List.replicate (9 - (Lib.decDigits (wd m g)).length) 48 ++ Lib.decDigits (wd m g) := by
 have h9 := nine u h.symm (wd_lt m g)
 rw [ByteArray.data_append, Array.toList_append, zeros9 _ h9, itx_list, ← h, itoa_nat]
 congr 2
theorem pad_size (u : Int) (h : (itx u).size ≤ 9) : (({ data := #[48, 48, 48, 48, 48, 48, 48, 48, 48] } : ByteArray).extract (itx u).size 9 ++ itx u).size ≤ 18 := by
 rw [ByteArray.size_append, ByteArray.size_extract]
 have : ({ data := #[48, 48, 48, 48, 48, 48, 48, 48, 48] } : ByteArray).size = 9 := rfl
 omega
theorem dd_len (u k : Nat) (h : u < 10 ^ k) (hk : 0 < k) : (Lib.decDigits u).length ≤ k := by
 obtain ⟨j, rfl⟩ : ∃ j, k = j + 1 := ⟨k - 1, by omega⟩
 exact (pad_eq j u h).1
theorem text_len (m g : Nat) {n : Nat} (h : nw m = n + 1) (hn : n + 1 ≤ 232) : (Lib.decDigits (m / BB ^ g)).length ≤ 2088 := by
 have key : ∀ a b : Nat, m / BB ^ g < 10 ^ (a * b) → 0 < a * b → (Lib.decDigits (m / BB ^ g)).length ≤ a * b := fun a b hk h0 => dd_len _ (a * b) hk h0
 have h1 : m / BB ^ g ≤ m := Nat.div_le_self _ _
 have h2 : m < BB ^ 232 := Nat.lt_of_lt_of_le (lt_nw m) (Nat.pow_le_pow_right (by decide) (by omega))
 have h3 : ∀ k, BB ^ k = 10 ^ (9 * k) := fun k => by rw [← BB_pow, ← Nat.pow_mul]
 have h4 : ∀ k, m < BB ^ k → m < 10 ^ (9 * k) := fun k h => h3 k ▸ h
 exact key 9 232 (Nat.lt_of_le_of_lt h1 (h4 232 h2)) (by decide)
theorem text_room (pre : List UInt8) (hp : pre.length ≤ 1) {l : List UInt8} (hl : l.length ≤ 2088) {S : ByteArray} (hs : S.size ≤ 18) : (Lib.byteCells (pre ++ l)).length + S.size ≤ 140737488355328 := by
 rw [Lib.byteCells_length, List.length_append]
 omega
theorem text_pos (m g : Nat) {n : Nat} (h : nw m = n + 1) (hg : g + 1 ≤ n) : 0 < m / BB ^ (g + 1) := by
 rcases Nat.eq_zero_or_pos (m / BB ^ (g + 1)) with h0 | h0
 ·have : m < BB ^ (g + 1) := (Nat.div_eq_zero_iff.1 h0).resolve_left (by have := BB_pos (g + 1); omega)
  have := nw_le this
  omega
 ·exact h0
theorem strs_app (l : List UInt8) (s : ByteArray) : Lib.byteCells l ++ Lib.strCells s = Lib.byteCells (l ++ s.data.toList) := by
 rw [Lib.byteCells_append]; rfl
theorem top_word {m n : Nat} (h : nw m = n + 1) : m / BB ^ n = wd m n := by
 have h1 := div_wd m n
 have h2 : m / BB ^ (n + 1) = 0 := Nat.div_eq_of_lt (by have := lt_nw m; rwa [h] at this)
 rw [h2, Nat.mul_zero, Nat.zero_add] at h1
 exact h1
def TextPost (w : World) (v : Int) (e : Ending) (w' : World) : Prop := e = .returned (.string (itx v)) ∧ Below w.heap.size w w'
set_option maxRecDepth 100000 in
theorem text_zero (b : Nat) (s : Bool) (w : World) (hx : Mg w b s 0) :
  Calls Tryz.prog 102 #[.pointer (some ⟨b, 0, none⟩)] w (TextPost w (sg s 0)) := by
 have c1 := hx.c1
 have HX := Lib.hid hx; clear hx
 rw [nw_zero] at c1
 have hfin : Hid (sg s 0 = 0) := Lib.hid (by cases s <;> rfl)
 go_enter Tryz.func102, Tryz.ntmps102
 go_wp2
 go_ret
 exact ⟨by rw [hfin.out, itx_zero]; rfl, Below.refl _ _⟩
set_option maxHeartbeats 2000000 in
set_option maxRecDepth 100000 in
theorem text_false (b m n : Nat) (w : World) (hx : Mg w b false m) (ht : Tabs w) (hm0 : ¬m = 0) (hne : nw m = n + 1) :
  Calls Tryz.prog 102 #[.pointer (some ⟨b, 0, none⟩)] w (TextPost w (sg false m)) := by
 have c0 := hx.c0
 have c1 := hx.c1
 have hn := hx.nw
 have hlt := hx.blt
 have HX := Lib.hid hx; clear hx
 have HT := Lib.hid ht; clear ht
 rw [hne] at c1 hn
 have hc1 : w.cell? ⟨b, 1, none⟩ = some (.int .i64 ((n : Int) + 1)) := c1
 clear c1
 have HNE := Lib.hid hne; clear hne
 have hn0 : ((n : Int) + 1 == 0) = false := by rw [beq_eq_false_iff_ne]; omega
 go_enter Tryz.func102, Tryz.ntmps102
 go_wp2
 have hib : Lib.IsBuilderF 163 5 w.heap.size w.heap.size (Lib.byteCells []) (w.alloc (Obj.cells #[Value.pointer none, Value.slice none 0 0] 163)) := .of (Lib.fresh_isBuilder _ _ w)
 have hbl : Below w.heap.size w (w.alloc (Obj.cells #[Value.pointer none, Value.slice none 0 0] 163)) := (Below.refl _ _).alloc (Nat.le_refl _) _
 generalize w.alloc (Obj.cells #[Value.pointer none, Value.slice none 0 0] 163) = W at hib hbl ⊢
 have HBL := Lib.hid hbl; clear hbl
 have HIB := Lib.hid hib; clear hib
 have hxW : Mg W b false m := HX.out.below HBL.out
 have HXW := Lib.hid hxW; clear hxW
 have c1 : W.cell? ⟨b, 1, none⟩ = some (.int .i64 ((n : Int) + 1)) := by have := HXW.out.c1; rw [HNE.out] at this; exact this
 have c2 := HXW.out.cw n (by omega)
 have hn232 : (n : Int) < 232 := by omega
 have hv := wd_lt m n
 have htW : Tabs W := HT.out.below HBL.out
 have HTW := Lib.hid htW; clear htW
 generalize hve : (wd m n : Int) = v at c2
 have hv0 : 0 ≤ v ∧ v < 1000000000 := by omega
 have HVE := Lib.hid hve; clear hve
 obtain ⟨hv1, hv2⟩ := hv0
 go_wp2
 have hz := itx_size_le v (by omega) (by omega)
 have HZ := Lib.hid hz; clear hz
 have hsum : IntKind.i64.wrap (n : Int) = (n : Int) := by rw [IntKind.wrap_i64]; omega
 have hn00 : (0 : Int) ≤ (n : Int) := by omega
 go_region_with (first | (go_at_call 119; refine (itoa_calls v (by omega) (by omega) W.drew (Tabs.drew HTW.out)).mono ?_; rintro e w1 ⟨rfl, hb1⟩; have HB1 := Lib.hid hb1; clear hb1) | (go_at_call 137; refine (writeString_k w.heap.size w.heap.size (Lib.byteCells []) (itx v) _ (IsB.below (W := W.drew) (IsB.drew HIB.out) HB1.out) (by have := HZ.out; simp [Lib.byteCells]; omega) (by have := HB1.out.size; have h5 := HBL.out.size; exact Nat.le_trans h5 this)).mono ?_; rintro e w2 ⟨rfl, hb2, hb3⟩; have HB2 := Lib.hid hb2; clear hb2; have HB3 := Lib.hid hb3; clear hb3))
 have hbl2 : Below w.heap.size w w2 := ((HBL.out.drew).trans (HB1.out.mono (by have := HBL.out.size; exact this))).trans HB3.out
 have hib2 : Lib.IsBuilderF 163 5 w.heap.size w.heap.size (Lib.byteCells ([] ++ Lib.decDigits (m / BB ^ n))) w2 := .inr (by
  have h1 := HB2.out
  rw [strs_app] at h1
  rw [top_word HNE.out, ← itoa_nat, HVE.out, ← itx_list]
  exact h1)
 have HBL2 := Lib.hid hbl2; clear hbl2
 have HIB2 := Lib.hid hib2; clear hib2
 have d1 : w2.cell? ⟨b, 1, none⟩ = some (.int .i64 ((n : Int) + 1)) := by have := (HX.out.below HBL2.out).c1; rw [HNE.out] at this; exact this
 clear c1 c2 hc1 hsum hn0
 go_wp2
 have e1 : (n : Int) + 1 - 2 = (n : Int) - 1 := by omega
 (try rw [e1])
 clear e1
 go_loopg [4] n (fun g v4 wr => g ≤ n ∧ v4 = .int .i64 ((g : Int) - 1) ∧ Hid (Lib.IsBuilderF 163 5 w.heap.size w.heap.size (Lib.byteCells ([] ++ Lib.decDigits (m / BB ^ g))) wr) ∧ Hid (Below w.heap.size w wr))
 case atStart => exact ⟨Nat.le_refl _, rfl, HIB2, HBL2⟩
 case round =>
  obtain ⟨hg, rfl, HIr, HBr⟩ := hrel
  rcases Nat.eq_zero_or_pos gk with h0 | h0
  ·subst h0
   go_wp2_with fail
   refine (Tryz.Builder_String_any_k w.heap.size w.heap.size _ wr HIr.out HBr.out.size).mono ?_
   rintro e w9 ⟨rfl, hi9, hb9, _⟩
   have HB9 := Lib.hid hb9; clear hb9 hi9
   go_wp2
   go_ret
   exact ⟨text_end_false m hm0, HBr.out.trans HB9.out⟩
  ·obtain ⟨g, rfl⟩ : ∃ g, gk = g + 1 := ⟨gk - 1, by omega⟩
   have e1 : ((g + 1 : Nat) : Int) - 1 = g := by omega
   rw [e1]
   clear e1 h0
   have hcg := (HX.out.below HBr.out).cw g (by omega)
   have hg232 : (g : Int) < 232 := by omega
   have hu := wd_lt m g
   generalize hue : (wd m g : Int) = u at hcg
   have hu0 : 0 ≤ u ∧ u < 1000000000 := by omega
   have hu9 := nine u hue.symm hu
   have HUE := Lib.hid hue; clear hue
   obtain ⟨hu1, hu2⟩ := hu0
   clear hu
   go_wp2_with fail
   refine (itoa_calls u (by omega) (by omega) wr (HT.out.below HBr.out)).mono ?_
   rintro e w5 ⟨rfl, hb5⟩
   have HB5 := Lib.hid hb5; clear hb5
   have hu10 : ((itx u).size : Int) ≤ 9 := by omega
   go_wp2_with fail
   have hs2 := pad_str u HUE.out
   have HS2 := Lib.hid hs2; clear hs2
   have hs3 := pad_size u hu9
   generalize ({ data := #[48, 48, 48, 48, 48, 48, 48, 48, 48] } : ByteArray).extract (itx u).size 9 ++ itx u = S at HS2 hs3 ⊢
   have HS3 := Lib.hid hs3; clear hs3
   refine (writeString_k w.heap.size w.heap.size _ S w5 (IsB.below HIr.out HB5.out) (text_room _ (by decide) (text_len m (g + 1) HNE.out hn) HS3.out) (by have := HBr.out.size; have h2 := HB5.out.size; omega)).mono ?_
   rintro e w7 ⟨rfl, hb7, hb8⟩
   have HB7 := Lib.hid hb7; clear hb7
   have HB8 := Lib.hid hb8; clear hb8
   go_wp2
   go_roundg g
   case measure => omega
   case rel => exact ⟨by omega, rfl, Lib.hid (.inr (by
    have h1 := HB7.out
    rw [strs_app, HS2.out] at h1
    rw [dd_words m g (text_pos m g HNE.out hg), ← List.append_assoc]
    exact h1)), Lib.hid ((HBr.out.trans (HB5.out.mono HBr.out.size)).trans HB8.out)⟩
set_option maxHeartbeats 2000000 in
set_option maxRecDepth 100000 in
theorem text_true (b m n : Nat) (w : World) (hx : Mg w b true m) (ht : Tabs w) (hm0 : ¬m = 0) (hne : nw m = n + 1) :
  Calls Tryz.prog 102 #[.pointer (some ⟨b, 0, none⟩)] w (TextPost w (sg true m)) := by
 have c0 := hx.c0
 have c1 := hx.c1
 have hn := hx.nw
 have hlt := hx.blt
 have HX := Lib.hid hx; clear hx
 have HT := Lib.hid ht; clear ht
 rw [hne] at c1 hn
 have hc1 : w.cell? ⟨b, 1, none⟩ = some (.int .i64 ((n : Int) + 1)) := c1
 clear c1
 have HNE := Lib.hid hne; clear hne
 have hn0 : ((n : Int) + 1 == 0) = false := by rw [beq_eq_false_iff_ne]; omega
 go_enter Tryz.func102, Tryz.ntmps102
 go_wp2_with fail
 refine (writeByte_k w.heap.size w.heap.size (Lib.byteCells []) 45 (w.alloc (Obj.cells #[Value.pointer none, Value.slice none 0 0] 163)) (.of (Lib.fresh_isBuilder _ _ w)) (by decide) (by simp)).mono ?_
 rintro e W ⟨rfl, hat, hbl0⟩
 have hib : Lib.IsBuilderF 163 5 w.heap.size w.heap.size (Lib.byteCells [45]) W := .inr hat
 have hbl : Below w.heap.size w W := ((Below.refl _ _).alloc (Nat.le_refl _) _).trans hbl0
 clear hat hbl0
 have HBL := Lib.hid hbl; clear hbl
 have HIB := Lib.hid hib; clear hib
 have hxW : Mg W b true m := HX.out.below HBL.out
 have HXW := Lib.hid hxW; clear hxW
 have c1 : W.cell? ⟨b, 1, none⟩ = some (.int .i64 ((n : Int) + 1)) := by have := HXW.out.c1; rw [HNE.out] at this; exact this
 have c2 := HXW.out.cw n (by omega)
 have hn232 : (n : Int) < 232 := by omega
 have hv := wd_lt m n
 have htW : Tabs W := HT.out.below HBL.out
 have HTW := Lib.hid htW; clear htW
 generalize hve : (wd m n : Int) = v at c2
 have hv0 : 0 ≤ v ∧ v < 1000000000 := by omega
 have HVE := Lib.hid hve; clear hve
 obtain ⟨hv1, hv2⟩ := hv0
 go_wp2
 have hz := itx_size_le v (by omega) (by omega)
 have HZ := Lib.hid hz; clear hz
 have hsum : IntKind.i64.wrap (n : Int) = (n : Int) := by rw [IntKind.wrap_i64]; omega
 have hn00 : (0 : Int) ≤ (n : Int) := by omega
 go_region_with (first | (go_at_call 119; refine (itoa_calls v (by omega) (by omega) W.drew (Tabs.drew HTW.out)).mono ?_; rintro e w1 ⟨rfl, hb1⟩; have HB1 := Lib.hid hb1; clear hb1) | (go_at_call 137; refine (writeString_k w.heap.size w.heap.size (Lib.byteCells [45]) (itx v) _ (IsB.below (W := W.drew) (IsB.drew HIB.out) HB1.out) (by have := HZ.out; simp [Lib.byteCells]; omega) (by have := HB1.out.size; have h5 := HBL.out.size; exact Nat.le_trans h5 this)).mono ?_; rintro e w2 ⟨rfl, hb2, hb3⟩; have HB2 := Lib.hid hb2; clear hb2; have HB3 := Lib.hid hb3; clear hb3))
 have hbl2 : Below w.heap.size w w2 := ((HBL.out.drew).trans (HB1.out.mono (by have := HBL.out.size; exact this))).trans HB3.out
 have hib2 : Lib.IsBuilderF 163 5 w.heap.size w.heap.size (Lib.byteCells ([45] ++ Lib.decDigits (m / BB ^ n))) w2 := .inr (by
  have h1 := HB2.out
  rw [strs_app] at h1
  rw [top_word HNE.out, ← itoa_nat, HVE.out, ← itx_list]
  exact h1)
 have HBL2 := Lib.hid hbl2; clear hbl2
 have HIB2 := Lib.hid hib2; clear hib2
 have d1 : w2.cell? ⟨b, 1, none⟩ = some (.int .i64 ((n : Int) + 1)) := by have := (HX.out.below HBL2.out).c1; rw [HNE.out] at this; exact this
 clear c1 c2 hc1 hsum hn0
 go_wp2
 have e1 : (n : Int) + 1 - 2 = (n : Int) - 1 := by omega
 (try rw [e1])
 clear e1
 go_loopg [4] n (fun g v4 wr => g ≤ n ∧ v4 = .int .i64 ((g : Int) - 1) ∧ Hid (Lib.IsBuilderF 163 5 w.heap.size w.heap.size (Lib.byteCells ([45] ++ Lib.decDigits (m / BB ^ g))) wr) ∧ Hid (Below w.heap.size w wr))
 case atStart => exact ⟨Nat.le_refl _, rfl, HIB2, HBL2⟩
 case round =>
  obtain ⟨hg, rfl, HIr, HBr⟩ := hrel
  rcases Nat.eq_zero_or_pos gk with h0 | h0
  ·subst h0
   go_wp2_with fail
   refine (Tryz.Builder_String_any_k w.heap.size w.heap.size _ wr HIr.out HBr.out.size).mono ?_
   rintro e w9 ⟨rfl, hi9, hb9, _⟩
   have HB9 := Lib.hid hb9; clear hb9 hi9
   go_wp2
   go_ret
   exact ⟨text_end_true m hm0, HBr.out.trans HB9.out⟩
  ·obtain ⟨g, rfl⟩ : ∃ g, gk = g + 1 := ⟨gk - 1, by omega⟩
   have e1 : ((g + 1 : Nat) : Int) - 1 = g := by omega
   rw [e1]
   clear e1 h0
   have hcg := (HX.out.below HBr.out).cw g (by omega)
   have hg232 : (g : Int) < 232 := by omega
   have hu := wd_lt m g
   generalize hue : (wd m g : Int) = u at hcg
   have hu0 : 0 ≤ u ∧ u < 1000000000 := by omega
   have hu9 := nine u hue.symm hu
   have HUE := Lib.hid hue; clear hue
   obtain ⟨hu1, hu2⟩ := hu0
   clear hu
   go_wp2_with fail
   refine (itoa_calls u (by omega) (by omega) wr (HT.out.below HBr.out)).mono ?_
   rintro e w5 ⟨rfl, hb5⟩
   have HB5 := Lib.hid hb5; clear hb5
   have hu10 : ((itx u).size : Int) ≤ 9 := by omega
   go_wp2_with fail
   have hs2 := pad_str u HUE.out
   have HS2 := Lib.hid hs2; clear hs2
   have hs3 := pad_size u hu9
   generalize ({ data := #[48, 48, 48, 48, 48, 48, 48, 48, 48] } : ByteArray).extract (itx u).size 9 ++ itx u = S at HS2 hs3 ⊢
   have HS3 := Lib.hid hs3; clear hs3
   refine (writeString_k w.heap.size w.heap.size _ S w5 (IsB.below HIr.out HB5.out) (text_room _ (by decide) (text_len m (g + 1) HNE.out hn) HS3.out) (by have := HBr.out.size; have h2 := HB5.out.size; omega)).mono ?_
   rintro e w7 ⟨rfl, hb7, hb8⟩
   have HB7 := Lib.hid hb7; clear hb7
   have HB8 := Lib.hid hb8; clear hb8
   go_wp2
   go_roundg g
   case measure => omega
   case rel => exact ⟨by omega, rfl, Lib.hid (.inr (by
    have h1 := HB7.out
    rw [strs_app, HS2.out] at h1
    rw [dd_words m g (text_pos m g HNE.out hg), ← List.append_assoc]
    exact h1)), Lib.hid ((HBr.out.trans (HB5.out.mono HBr.out.size)).trans HB8.out)⟩
theorem text_calls (b : Nat) (s : Bool) (m : Nat) (w : World) (hx : Mg w b s m) (ht : Tabs w) :
  Calls Tryz.prog 102 #[.pointer (some ⟨b, 0, none⟩)] w (TextPost w (sg s m)) := by
 by_cases hm0 : m = 0
 ·subst hm0
  exact text_zero b s w hx
 ·obtain ⟨n, hne⟩ : ∃ n, nw m = n + 1 := ⟨nw m - 1, by have := nw_succ hm0; omega⟩
  cases s
  ·exact text_false b m n w hx ht hm0 hne
  ·exact text_true b m n w hx ht hm0 hne
end Go.Proofs.YtkdpcgmnkifbbaaGreatDoor
end
