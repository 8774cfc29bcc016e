/- Joined by a program of this session out of its texts, with only what the last theorem needs: Aux Dx0 Ex0 Lx0 Cx0 Wd Wt Mg Wc Wb. No conditions but those stated. -/
import Derived.Test.YtkdpcgmnkifbbaaGreatDoorProg
import Derived.KernelRfl
import Derived.Test.YtkdpcgmnkifbbaaGreatDoorZC06
import Derived.Lib.LaidTab
import Derived.Lib.ItoaNum
import Derived.Lib.Itoa
import Derived.WalkSmall
import Derived.Lib.Hide
import Derived.Below
import Derived.Deep.Draws
import Derived.Deep.AppendLies
import Derived.Maps.AppendAt
import Derived.OwnWalk
import Derived.Laws.BytesArg
import Derived.Laws.MakeOwn
import Derived.Laws.OwnMore
import Derived.Deep.OwnRows
import Derived.Tactics
import Derived.Lib.ConvBytes
import Derived.Laws.Slices
import Derived.WalkKit
import Derived.RowKit3
import Derived.Deep.LoopGhost
import Derived.Deep.QuietTactic
import Derived.BigQuiet
import Derived.WideLaws
import Derived.Deep.DeepCutAuto
import Derived.Deep.CutBlock
import Derived.Deep.RegionHeld3
import Derived.Laws.Rows
import Derived.Lib.AppendStr
import Derived.ArgAppend
import Derived.Laws.IdiomCopy
import Derived.OrdersHeld
import Derived.Laws.BitsLemmas
import Derived.RowKit
import Derived.Test.YtkdpcgmnkifbbaaGreatDoorZC05
import Derived.Test.YtkdpcgmnkifbbaaGreatDoorZC04
import Derived.Test.YtkdpcgmnkifbbaaGreatDoorZC01
set_option linter.unusedVariables false
set_option linter.unusedSimpArgs false
namespace Go.Proofs.YtkdpcgmnkifbbaaGreatDoorW.PrintLast
end Go.Proofs.YtkdpcgmnkifbbaaGreatDoorW.PrintLast
namespace Go.Proofs.YtkdpcgmnkifbbaaGreatDoorW.PrintMore
end Go.Proofs.YtkdpcgmnkifbbaaGreatDoorW.PrintMore
namespace Go.Proofs.YtkdpcgmnkifbbaaGreatDoorW.PrintWords
end Go.Proofs.YtkdpcgmnkifbbaaGreatDoorW.PrintWords
section
namespace Go.Proofs.YtkdpcgmnkifbbaaGreatDoor
open Go.RowKit
open Go.Proofs.YtkdpcgmnkifbbaaGreatDoorW.PrintWords (Aside0 below_step) in
theorem bindA {α β : Type} {x : Option α} {f : α → Option β} {r : β} (h : x.bind f = some r) : ∃ a, Aside0 (x = some a) ∧ f a = some r := by
 obtain ⟨a, h1, h2⟩ := Option.bind_eq_some_iff.mp h
 exact ⟨a, ⟨h1⟩, h2⟩
theorem gz {P : Program} {ops : Array Oper} {Q : Exit → Act → World → Prop} {rest : List Oper} {oi : Oper} {a : Act} {w : World} {f : FuncId} {fn : Func} {xs : Array Operand} {ts : Array TypeId} {args : Array Value} {v : Value} {R : World → Prop}
  (hop : oi.op = .call { callee := .value (.func f), args := xs, argTypes := ts }) (N : Option Tmp) (hd : oi.dst = N) (hf : P.funcs[f]? = some fn) (hc : Calls P f args w fun e w' => e = .returned v ∧ R w') (hk : ∀ w', R w' → wpList P ops Q rest (a.put N v) w')
  (hg : oi.guard = none := by rfl) (hname : (fn.name == "runtime.NumGoroutine") = false := by kernel_rfl) (hb : fn.body.isSome = true := by rfl) (hargs : xs.map a.eval = args := by (try simp only [List.map_toArray, List.map_cons, List.map_nil]); first | done | rfl | (simp only [List.length_drop, List.length_take]; rfl)) : wpList P ops Q (oi :: rest) a w := by
 refine YtkdpcgmnkifbbaaGreatDoorW.PrintLast.goesL_ N hd hg hf hname hb args hop hargs (hc.mono ?_)
 rintro e w' ⟨rfl, h⟩
 exact ⟨_, rfl, hk w' h⟩
open Go.Proofs.YtkdpcgmnkifbbaaGreatDoorW.PrintWords (Aside0 below_step) in
theorem gy {P : Program} {ops : Array Oper} {Q : Exit → Act → World → Prop} {rest : List Oper} {oi : Oper} {a : Act} {w w0 : World} {f : FuncId} {fn : Func} {xs : Array Operand} {ts : Array TypeId} {args : Array Value} {v : Value}
  (hop : oi.op = .call { callee := .value (.func f), args := xs, argTypes := ts }) (N : Option Tmp) (hd : oi.dst = N) (hf : P.funcs[f]? = some fn) (hc : Calls P f args w fun e w' => e = .returned v ∧ Below w.heap.size w w') (hB : Below w0.heap.size w0 w) (hk : ∀ w', Aside0 (Below w0.heap.size w0 w') → wpList P ops Q rest (a.put N v) w')
  (hg : oi.guard = none := by rfl) (hname : (fn.name == "runtime.NumGoroutine") = false := by kernel_rfl) (hb : fn.body.isSome = true := by rfl) (hargs : xs.map a.eval = args := by (try simp only [List.map_toArray, List.map_cons, List.map_nil]); first | done | rfl | (simp only [List.length_drop, List.length_take]; rfl)) : wpList P ops Q (oi :: rest) a w :=
 gz hop N hd hf hc (fun w' h => hk w' ⟨below_step hB h⟩) hg hname hb hargs
open Go.Proofs.YtkdpcgmnkifbbaaGreatDoorW.PrintWords Go.Proofs.YtkdpcgmnkifbbaaGreatDoorW.PrintLast in
theorem pu_ {P : Program} {ops : Array Oper} {Q : Exit → Act → World → Prop} {md : Region.Mode} {S : World → Prop} {ds : List Nat} {T : Bool × List (List Nat × List Nat)} {i : Nat} {N : Option Tmp} {oi : Oper} {v : Value} {fuel : Nat} {l : Array Bool} {a a' : Act} {w : World} (l' : Array Bool) (HT : rtab md ops = T)
  (h : Go.Proofs.YtkdpcgmnkifbbaaGreatDoorW.PrintLast.wpAnyLast P md ops Q S ds fuel l' a' w) (hi : ops[i]? = some oi := by exact rfl) (hN : oi.dst = N := by exact rfl) (hc : anyT T l.toList l'.toList i = true := by kernel_rfl) (hQ : ∀ c a w, Q (.panic c) (a.put oi.dst v) w → Q (.panic c) a w := by exact fun _ _ _ h => h)
  (hr : Region.wanted oi (yielded ops a.tmps) = true := by rfl) (hv : ∀ w, (execOp a.eval oi).run P w = .ok (.value v) w := by intro w'; go_simp; with_reducible rfl) (ha : a.put N v = a' := by simp only [Act.put, List.setIfInBounds_toArray, List.set_cons_zero, List.set_cons_succ, i64_w, i32_w]; rfl) : Go.Proofs.YtkdpcgmnkifbbaaGreatDoorW.PrintLast.wpAnyLast P md ops Q S ds (fuel + 1) l a w :=
 Go.Proofs.YtkdpcgmnkifbbaaGreatDoorW.PrintLast.pure_ l' hi hN (any_of HT hc) hQ (Or.inl ⟨hr, hv⟩) ha h
theorem w64_m256 (x : Int) : wrap64 (x % 256) = x % 256 := by unfold wrap64; omega
theorem isE_ne (l : List UInt8) : l.isEmpty = !(l != []) := by cases l <;> rfl
theorem pow10_global : Tryz.prog.globalNamed "internal/strconv.uint64pow10" = some 5 := by kernel_rfl
def Tabs (w : World) : Prop := Lib.TabIs Tryz.prog w "internal/strconv.uint64pow10" .u64 Lib.pow10Tab
theorem Tabs.below {w w' : World} (h : Tabs w) (hb : Below w.heap.size w w') : Tabs w' := by
 unfold Tabs Lib.TabIs at *
 refine var?_below hb pow10_global ?_ h
 simp only [World.var?, pow10_global, Option.bind_some] at h
 rcases Nat.lt_or_ge 5 w.heap.size with h2 | h2
 ·exact h2
 ·rw [Array.getElem?_eq_none h2] at h; cases h
end Go.Proofs.YtkdpcgmnkifbbaaGreatDoor
end
section
namespace Go.Proofs.YtkdpcgmnkifbbaaGreatDoor.D
open Go.RowKit Go.Proofs.YtkdpcgmnkifbbaaGreatDoorW.PrintWords Go.Proofs.YtkdpcgmnkifbbaaGreatDoorW.PrintLast Go.Proofs.YtkdpcgmnkifbbaaGreatDoorW.PrintMore
attribute [local go_sem] max2_int min2_int max_two min_two max_three min_three max_four min_four
set_option linter.unusedVariables false
set_option linter.unusedSimpArgs false
def errW : Option Int → Value
 | none => .nilIface
 | some c => .iface 0 (.int .i64 c)
theorem errW_none : errW none = .nilIface := rfl
theorem errW_some (c : Int) : errW (some c) = .iface 0 (.int .i64 c) := rfl
theorem info39 : (Tryz.prog.info? 39).map (fun i => (i.zero, i.size, i.bytes)) = some (some (.string ⟨#[]⟩), 1, 16) := by kernel_rfl
theorem info60 : (Tryz.prog.info? 60).map (fun i => (i.zero, i.size, i.bytes)) = some (some (.agg #[(.int .i64 0), (.string ⟨#[]⟩)]), 2, 24) := by kernel_rfl
structure S60 where
 f0 : Int
 f1 : ByteArray
def z60 : S60 := ⟨(0 : Int), (⟨#[]⟩ : ByteArray)⟩
def k60 : Kd S60 := Kd.iso (Kd.pair (Kd.int .i64) Kd.string) (fun x : S60 => (x.f0, x.f1))
theorem k60_open {w : World} {x : S60} {cs : List Value} (h : k60.K w x cs) : cs = [.int .i64 x.f0, .string x.f1] := by
 obtain ⟨_, _, rfl, rfl, rfl⟩ := h
 exact rfl
theorem k60_openM {w : World} {base : Nat} {ok : Nat → Prop} {x : S60} {cs : List Value} (h : k60.M w base ok x cs) : cs = [.int .i64 x.f0, .string x.f1] := by
 obtain ⟨_, _, rfl, rfl, rfl⟩ := h
 exact rfl
theorem k60_mk (w : World) (x : S60)  : k60.K w x [.int .i64 x.f0, .string x.f1] := ⟨[.int .i64 x.f0], [.string x.f1], rfl, rfl, rfl⟩
theorem k60_mkM (w : World) (base : Nat) (ok : Nat → Prop) (x : S60)  : k60.M w base ok x [.int .i64 x.f0, .string x.f1] := ⟨[.int .i64 x.f0], [.string x.f1], rfl, rfl, rfl⟩
def rd_T60 (xs : List S60) (i : Int) : S60 := xs.getD i.toNat z60
theorem at_T60 {w : World} {A : Option Addr} {n : Nat} {xs : List S60} (h : Kd.C k60 w A n xs) (i : Int) (h0 : 0 ≤ i) (h1 : i < n) : ∃ ad , A = some ad ∧ w.cell? (ad.add (i.toNat * 2)) = some (.int .i64 (rd_T60 xs i).f0) ∧ w.cell? ⟨(ad.add (i.toNat * 2)).block, (ad.add (i.toNat * 2)).off + 1, none⟩ = some (.string (rd_T60 xs i).f1) := by
 obtain ⟨ad, c, e, _, hK, hc0⟩ := Kd.C_get h z60 i h0 h1
 have hc : ∀ j u, c[j]? = some u → w.cell? (ad.add (i.toNat * 2 + j)) = some u := hc0
 obtain rfl := k60_open hK
 exact ⟨ad, e, hc 0 _ rfl, by rw [← add_field _ _ 1 (by omega)]; exact hc 1 _ rfl⟩
end Go.Proofs.YtkdpcgmnkifbbaaGreatDoor.D
end
section
namespace Go.Proofs.YtkdpcgmnkifbbaaGreatDoor.E
open Go.RowKit Go.Proofs.YtkdpcgmnkifbbaaGreatDoorW.PrintWords Go.Proofs.YtkdpcgmnkifbbaaGreatDoorW.PrintLast Go.Proofs.YtkdpcgmnkifbbaaGreatDoorW.PrintMore
attribute [local go_sem] max2_int min2_int max_two min_two max_three min_three max_four min_four
set_option linter.unusedVariables false
set_option linter.unusedSimpArgs false
def errW : Option Int → Value
 | none => .nilIface
 | some c => .iface 0 (.int .i64 c)
theorem errW_none : errW none = .nilIface := rfl
theorem errW_some (c : Int) : errW (some c) = .iface 0 (.int .i64 c) := rfl
end Go.Proofs.YtkdpcgmnkifbbaaGreatDoor.E
end
section
namespace Go.Proofs.YtkdpcgmnkifbbaaGreatDoor.L
open Go.RowKit Go.Proofs.YtkdpcgmnkifbbaaGreatDoorW.PrintWords Go.Proofs.YtkdpcgmnkifbbaaGreatDoorW.PrintLast Go.Proofs.YtkdpcgmnkifbbaaGreatDoorW.PrintMore
attribute [local go_sem] max2_int min2_int max_two min_two max_three min_three max_four min_four
set_option linter.unusedVariables false
set_option linter.unusedSimpArgs false
def errW : Option Int → Value
 | none => .nilIface
 | some c => .iface 0 (.int .i64 c)
theorem errW_none : errW none = .nilIface := rfl
theorem errW_some (c : Int) : errW (some c) = .iface 0 (.int .i64 c) := rfl
theorem info39 : (Tryz.prog.info? 39).map (fun i => (i.zero, i.size, i.bytes)) = some (some (.string ⟨#[]⟩), 1, 16) := by kernel_rfl
end Go.Proofs.YtkdpcgmnkifbbaaGreatDoor.L
end
section
namespace Go.Proofs.YtkdpcgmnkifbbaaGreatDoor.C
open Go.RowKit Go.Proofs.YtkdpcgmnkifbbaaGreatDoorW.PrintWords Go.Proofs.YtkdpcgmnkifbbaaGreatDoorW.PrintLast Go.Proofs.YtkdpcgmnkifbbaaGreatDoorW.PrintMore
attribute [local go_sem] max2_int min2_int max_two min_two max_three min_three max_four min_four
set_option linter.unusedVariables false
set_option linter.unusedSimpArgs false
def errW : Option Int → Value
 | none => .nilIface
 | some c => .iface 0 (.int .i64 c)
theorem errW_none : errW none = .nilIface := rfl
theorem errW_some (c : Int) : errW (some c) = .iface 0 (.int .i64 c) := rfl
theorem info39 : (Tryz.prog.info? 39).map (fun i => (i.zero, i.size, i.bytes)) = some (some (.string ⟨#[]⟩), 1, 16) := by kernel_rfl
end Go.Proofs.YtkdpcgmnkifbbaaGreatDoor.C
end
section
namespace Go.Proofs.YtkdpcgmnkifbbaaGreatDoor
open Go.RowKit
def wcells (s : Bool) (n : Int) (ws : List Int) : List Value := .bool s :: .int .i64 n :: ws.map (Value.int .i64)
structure Wd (w : World) (b : Nat) (s : Bool) (n : Int) (ws : List Int) : Prop where
 heap : w.heap[b]? = some (.cells (wcells s n ws).toArray 119 (0, 0))
 len : ws.length = 232
theorem Wd.at {w : World} {b : Nat} {s : Bool} {n : Int} {ws : List Int} (h : Wd w b s n ws) (j : Nat) : w.cell? ⟨b, j, none⟩ = (wcells s n ws)[j]? := by
 simp [World.cell?, h.heap]
theorem Wd.c0 {w : World} {b : Nat} {s : Bool} {n : Int} {ws : List Int} (h : Wd w b s n ws) : w.cell? ⟨b, 0, none⟩ = some (.bool s) := h.at 0
theorem Wd.c1 {w : World} {b : Nat} {s : Bool} {n : Int} {ws : List Int} (h : Wd w b s n ws) : w.cell? ⟨b, 1, none⟩ = some (.int .i64 n) := h.at 1
theorem Wd.cw {w : World} {b : Nat} {s : Bool} {n : Int} {ws : List Int} (h : Wd w b s n ws) (i : Nat) (hi : i < 232) : w.cell? ⟨b, 2 + i, none⟩ = some (.int .i64 (ws.getD i 0)) := by
 rw [h.at, Nat.add_comm]
 have := h.len
 simp [wcells, List.getElem?_eq_getElem (show i < ws.length by omega), List.getD]
theorem Wd.fz {w : World} {b : Nat} {s : Bool} {n : Int} {ws : List Int} (h : Wd w b s n ws) (j : Nat) : w.frozen? ⟨b, j, none⟩ = false := by
 simp [World.frozen?, h.heap]
theorem Wd.setn {w : World} {b : Nat} {s : Bool} {n : Int} {ws : List Int} (h : Wd w b s n ws) (m : Int) : Wd (w.setCell ⟨b, 1, none⟩ (.int .i64 m)) b s m ws :=
 ⟨by rw [heap_setCell_same _ _ _ _ _ _ h.heap]; simp [wcells], h.len⟩
theorem Wd.setw {w : World} {b : Nat} {s : Bool} {n : Int} {ws : List Int} (h : Wd w b s n ws) (i : Nat) (x : Int) : Wd (w.setCell ⟨b, 2 + i, none⟩ (.int .i64 x)) b s n (ws.set i x) :=
 ⟨by rw [heap_setCell_same _ _ _ _ _ _ h.heap, Nat.add_comm]; simp [wcells, List.map_set], by rw [List.length_set]; exact h.len⟩
theorem Wd.other {w : World} {b : Nat} {s : Bool} {n : Int} {ws : List Int} (h : Wd w b s n ws) {c : Nat} (hc : b ≠ c) (j : Nat) (v : Value) : Wd (w.setCell ⟨c, j, none⟩ v) b s n ws :=
 ⟨by rw [heap_setCell_other _ _ _ _ hc]; exact h.heap, h.len⟩
theorem Wd.lt {w : World} {b : Nat} {s : Bool} {n : Int} {ws : List Int} (h : Wd w b s n ws) : b < w.heap.size := (Array.getElem?_eq_some_iff.1 h.heap).1
theorem Wd.alloc {w : World} {b : Nat} {s : Bool} {n : Int} {ws : List Int} (h : Wd w b s n ws) (o : Obj) : Wd (w.alloc o) b s n ws :=
 ⟨by rw [show (w.alloc o).heap = w.heap.push o from rfl, Array.getElem?_push_lt h.lt]; have := h.heap; rwa [Array.getElem?_eq_getElem h.lt] at this, h.len⟩
theorem Wd.drewN {w : World} {b : Nat} {s : Bool} {n : Int} {ws : List Int} (h : Wd w b s n ws) (k : Nat) : Wd (w.drewN k) b s n ws := ⟨h.heap, h.len⟩
theorem Wd.drew {w : World} {b : Nat} {s : Bool} {n : Int} {ws : List Int} (h : Wd w b s n ws) : Wd w.drew b s n ws := ⟨h.heap, h.len⟩
theorem Wd.grown {w w' : World} {b : Nat} {s : Bool} {n : Int} {ws : List Int} (h : Wd w b s n ws) {c : Option Nat} (hg : w.grownBy w' c) (hc : some b ≠ c) : Wd w' b s n ws :=
 ⟨by rw [hg.block b h.lt hc]; exact h.heap, h.len⟩
theorem gby_refl (w : World) (c : Option Nat) : w.grownBy w c := ⟨rfl, rfl, rfl, Nat.le_refl _, fun _ _ _ => rfl⟩
theorem gby_trans {w w1 w2 : World} {c : Option Nat} (h : w.grownBy w1 c) (k : w1.grownBy w2 c) : w.grownBy w2 c :=
 ⟨k.os.trans h.os, k.tape.trans h.tape, k.output.trans h.output, Nat.le_trans h.size k.size, fun i hi hc => (k.block i (Nat.lt_of_lt_of_le hi h.size) hc).trans (h.block i hi hc)⟩
theorem gby_set {w w1 : World} {b : Nat} (h : w.grownBy w1 (some b)) (j : Nat) (v : Value) : w.grownBy (w1.setCell ⟨b, j, none⟩ v) (some b) :=
 gby_trans h ⟨rfl, rfl, rfl, by simp [World.setCell], fun i _ hc => heap_setCell_other _ _ _ _ (fun e => hc (by simp [e]))⟩
theorem gby_alloc {w w1 : World} {c : Option Nat} (h : w.grownBy w1 c) (o : Obj) : w.grownBy (w1.alloc o) c :=
 gby_trans h ⟨rfl, rfl, rfl, by simp, fun i hi _ => by rw [show (w1.alloc o).heap = w1.heap.push o from rfl, Array.getElem?_push_lt hi, Array.getElem?_eq_getElem hi]⟩
theorem gby_drewN {w w1 : World} {c : Option Nat} (h : w.grownBy w1 c) (n : Nat) : w.grownBy (w1.drewN n) c := ⟨h.os, h.tape, h.output, h.size, h.block⟩
theorem gby_below {w w1 w2 : World} {c : Option Nat} (h : w.grownBy w1 c) (k : Below w1.heap.size w1 w2) : w.grownBy w2 c :=
 gby_trans h ⟨k.os, k.tape, k.output, k.size, fun i hi _ => k.block i hi⟩
theorem below_gby {B : Nat} {w0 w w1 : World} {b : Nat} (h : Below B w0 w) (hb : B ≤ b) (hB : B ≤ w.heap.size) (k : w.grownBy w1 (some b)) : Below B w0 w1 :=
 h.trans ⟨k.os, k.tape, k.output, k.size, fun i hi => k.block i (Nat.lt_of_lt_of_le hi hB) (fun e => by simp at e; omega)⟩
end Go.Proofs.YtkdpcgmnkifbbaaGreatDoor
end
section
namespace Go.Proofs.YtkdpcgmnkifbbaaGreatDoor
open Go.RowKit
set_option maxRecDepth 100000 in
set_option maxHeartbeats 1000000 in
theorem trimmed_calls (b : Nat) (s : Bool) (n m : Nat) (ws : List Int) (w : World) (h : Wd w b s n ws) (hn : n ≤ 232) (hm : m ≤ n)
  (hz : ∀ i, m ≤ i → i < n → ws.getD i 0 = 0) (hnz : 0 < m → ws.getD (m - 1) 0 ≠ 0) :
  Calls Tryz.prog 131 #[.pointer (some ⟨b, 0, none⟩)] w fun e w' => e = .returned (.pointer (some ⟨b, 0, none⟩)) ∧ Wd w' b s m ws ∧ w.grownBy w' (some b) := by
 have HZ := Lib.hid hz; clear hz
 have HN := Lib.hid hnz; clear hnz
 have HW := Lib.hid h; clear h
 go_enter Tryz.func131, Tryz.ntmps131
 go_wp2
 go_loopg [] n (fun k wr => m ≤ k ∧ k ≤ n ∧ Hid (Wd wr b s (k : Int) ws) ∧ Hid (w.grownBy wr (some b)))
 case atStart => exact ⟨hm, Nat.le_refl _, HW, Lib.hid (gby_refl _ _)⟩
 case round =>
  obtain ⟨hmk, hkn, HK, HG⟩ := hrel
  rcases Nat.eq_zero_or_pos gk with h0 | h0
  ·subst h0
   obtain rfl : m = 0 := by omega
   have c1 : wr.cell? ⟨b, 1, none⟩ = some (.int .i64 0) := HK.out.c1
   go_wp2
   go_quiet (fail)
   go_wp2
   go_ret
   exact ⟨rfl, HK.out.drewN _, gby_drewN HG.out _⟩
  ·obtain ⟨k, rfl⟩ : ∃ k, gk = k + 1 := ⟨gk - 1, by omega⟩
   have c1 : wr.cell? ⟨b, 1, none⟩ = some (.int .i64 ((k : Int) + 1)) := HK.out.c1
   have f1 := HK.out.fz 1
   have ck := HK.out.cw k (by omega)
   have hk232 : (k : Int) < 232 := by omega
   have hk0 : (0 : Int) < (k : Int) + 1 := by omega
   generalize hx : ws.getD k 0 = x at ck
   have HX := Lib.hid hx; clear hx
   by_cases hx0 : x = 0
   ·subst hx0
    have hmk2 : m ≤ k := by
     rcases Nat.lt_or_ge k m with h | h
     ·obtain rfl : m = k + 1 := by omega
      exact absurd HX.out (HN.out (by omega))
     ·exact h
    go_wp2
    go_quiet (fail)
    go_wp2
    go_roundg k
    case measure => omega
    case rel => exact ⟨hmk2, by omega, Lib.hid ((HK.out.drewN _).setn _), Lib.hid (gby_set (gby_drewN HG.out _) _ _)⟩
   ·have hx1 : (x == 0) = false := by simpa using hx0
    obtain rfl : m = k + 1 := by
     rcases Nat.lt_or_ge k m with h | h
     ·omega
     ·exact absurd (HX.out.symm.trans (HZ.out k h (by omega))) hx0
    go_wp2
    go_quiet (fail)
    go_wp2
    go_ret
    exact ⟨rfl, HK.out.drewN _, gby_drewN HG.out _⟩
end Go.Proofs.YtkdpcgmnkifbbaaGreatDoor
end
section
namespace Go.Proofs.YtkdpcgmnkifbbaaGreatDoor
open Go.RowKit
def sg (s : Bool) (m : Nat) : Int := if s then -(m : Int) else m
def wds (m : Nat) : List Int := (List.range 232).map fun i => (wd m i : Int)
theorem wds_len (m : Nat) : (wds m).length = 232 := by simp [wds]
theorem wds_get (m i : Nat) (h : i < 232) : (wds m).getD i 0 = (wd m i : Int) := by simp [wds, List.getD, h]
theorem wds_ext {ws : List Int} (hl : ws.length = 232) (m : Nat) (h : ∀ i, i < 232 → ws.getD i 0 = (wd m i : Int)) : ws = wds m := by
 refine List.ext_getElem (by rw [hl, wds_len]) fun i h1 h2 => ?_
 have := h i (by omega)
 rw [← wds_get m i (by omega)] at this
 simpa [List.getD, List.getElem?_eq_getElem, h1, h2] using this
structure Mg (w : World) (b : Nat) (s : Bool) (m : Nat) : Prop where
 lt : m < BB ^ 232
 at_ : Wd w b s (nw m) (wds m)
theorem Mg.nw {w : World} {b : Nat} {s : Bool} {m : Nat} (h : Mg w b s m) : nw m ≤ 232 := nw_le h.lt
theorem Mg.c0 {w : World} {b : Nat} {s : Bool} {m : Nat} (h : Mg w b s m) : w.cell? ⟨b, 0, none⟩ = some (.bool s) := h.at_.c0
theorem Mg.c1 {w : World} {b : Nat} {s : Bool} {m : Nat} (h : Mg w b s m) : w.cell? ⟨b, 1, none⟩ = some (.int .i64 (Go.Proofs.YtkdpcgmnkifbbaaGreatDoor.nw m)) := h.at_.c1
theorem Mg.cw {w : World} {b : Nat} {s : Bool} {m : Nat} (h : Mg w b s m) (i : Nat) (hi : i < 232) : w.cell? ⟨b, 2 + i, none⟩ = some (.int .i64 (wd m i)) := by
 rw [h.at_.cw i hi, wds_get m i hi]
theorem Mg.grown {w w' : World} {b : Nat} {s : Bool} {m : Nat} (h : Mg w b s m) {c : Option Nat} (hg : w.grownBy w' c) (hc : some b ≠ c) : Mg w' b s m := ⟨h.lt, h.at_.grown hg hc⟩
theorem Mg.drewN {w : World} {b : Nat} {s : Bool} {m : Nat} (h : Mg w b s m) (k : Nat) : Mg (w.drewN k) b s m := ⟨h.lt, h.at_.drewN k⟩
theorem Mg.alloc {w : World} {b : Nat} {s : Bool} {m : Nat} (h : Mg w b s m) (o : Obj) : Mg (w.alloc o) b s m := ⟨h.lt, h.at_.alloc o⟩
theorem Mg.blt {w : World} {b : Nat} {s : Bool} {m : Nat} (h : Mg w b s m) : b < w.heap.size := h.at_.lt
theorem nw_le_of_words {M n : Nat} (h : ∀ j, n ≤ j → wd M j = 0) : nw M ≤ n := by
 rcases Nat.lt_or_ge n (nw M) with h1 | h1
 ·exact absurd (h (nw M - 1) (by omega)) (wd_top (by omega))
 ·exact h1
theorem trimmed_num (b : Nat) (s : Bool) (n m : Nat) (ws : List Int) (w : World) (h : Wd w b s n ws) (hn : n ≤ 232) (hm : m < BB ^ 232)
  (hw : ∀ j, j < 232 → ws.getD j 0 = (wd m j : Int)) (hz : ∀ j, n ≤ j → wd m j = 0) :
  Calls Tryz.prog 131 #[.pointer (some ⟨b, 0, none⟩)] w fun e w' => e = .returned (.pointer (some ⟨b, 0, none⟩)) ∧ Mg w' b s m ∧ w.grownBy w' (some b) := by
 have hws : ws = wds m := wds_ext h.len m hw
 subst hws
 have hnm : nw m ≤ n := nw_le_of_words hz
 refine (trimmed_calls b s n (nw m) (wds m) w h hn hnm (fun i h1 h2 => ?_) (fun h0 => ?_)).mono fun e w' ⟨h1, h2, h3⟩ => ⟨h1, ⟨hm, h2⟩, h3⟩
 ·rw [wds_get m i (by omega), wd_zero_of_ge h1]; rfl
 ·rw [wds_get m _ (by omega)]
  have := wd_top h0
  omega
theorem carry_parts {m k M up : Nat} {f : Int} (hM : (M : Int) = m + f * ((k * BB ^ up : Nat) : Int)) :
  ((M / BB ^ up : Nat) : Int) = (m / BB ^ up : Nat) + f * k ∧ M % BB ^ up = m % BB ^ up := by
 have hp := BB_pos up
 generalize BB ^ up = p at *
 have e : (M : Int) = m + p * (f * k) := by rw [hM, show ((k * p : Nat) : Int) = (k : Int) * p by rfl, ← Int.mul_assoc, Int.mul_comm _ (p : Int)]
 constructor
 ·rw [Int.natCast_ediv, e, Int.add_mul_ediv_left _ _ (by omega), Int.natCast_ediv]
 ·have h1 : ((M % p : Nat) : Int) = ((m % p : Nat) : Int) := by
   rw [Int.natCast_emod, e, Int.add_mul_emod_self_left, Int.natCast_emod]
  omega
theorem carry_done {m k M up i : Nat} {f : Int} (hM : (M : Int) = m + f * ((k * BB ^ up : Nat) : Int)) (hk : nw k ≤ i) (hr : rst (m / BB ^ up) k f i = 0) (j : Nat) (hj : up + i ≤ j) : wd M j = wd m j := by
 obtain ⟨h1, _⟩ := carry_parts hM
 have hkm : k % BB ^ i = k := Nat.mod_eq_of_lt (Nat.lt_of_lt_of_le (lt_nw k) (Nat.pow_le_pow_right (by decide) hk))
 obtain ⟨d, rfl⟩ : ∃ d, j = up + (i + d) := ⟨j - up - i, by omega⟩
 rw [← wd_div M up, ← wd_div m up]
 refine wd_of_div (i := i) ?_ (by omega)
 generalize M / BB ^ up = A at *
 generalize m / BB ^ up = a at *
 unfold rst at hr
 rw [hkm] at hr
 have hp := BB_pos i
 have ha := Nat.div_add_mod a (BB ^ i)
 generalize BB ^ i = p at *
 have hpp : (0 : Int) < (p : Int) := by omega
 generalize a % p = x at *
 have h2 : ((A / p : Nat) : Int) = ((a / p : Nat) : Int) := by
  generalize a / p = u at *
  subst ha
  rw [Int.natCast_ediv, h1, show ((p * u + x : Nat) : Int) + f * (k : Int) = (x + f * k) + p * u by push_cast; omega, Int.add_mul_ediv_left _ _ (by omega), hr]
  omega
 omega
theorem carry_room {m k M up i : Nat} {f : Int} (hM : (M : Int) = m + f * ((k * BB ^ up : Nat) : Int)) (hm : m < BB ^ 232) (hMb : M < BB ^ 232) (hk : nw k ≤ i) (hr : rst (m / BB ^ up) k f i ≠ 0) : up + i < 232 := by
 rcases Nat.lt_or_ge (up + i) 232 with h | h
 ·exact h
 ·exfalso
  apply hr
  obtain ⟨h1, _⟩ := carry_parts hM
  have hkm : k % BB ^ i = k := Nat.mod_eq_of_lt (Nat.lt_of_lt_of_le (lt_nw k) (Nat.pow_le_pow_right (by decide) hk))
  have hle : BB ^ 232 ≤ BB ^ up * BB ^ i := by rw [← Nat.pow_add]; exact Nat.pow_le_pow_right (by decide) h
  have ham : m / BB ^ up < BB ^ i := (Nat.div_lt_iff_lt_mul (BB_pos up)).2 (by rw [Nat.mul_comm]; omega)
  have hAM : M / BB ^ up < BB ^ i := (Nat.div_lt_iff_lt_mul (BB_pos up)).2 (by rw [Nat.mul_comm]; omega)
  unfold rst
  rw [hkm, Nat.mod_eq_of_lt ham, ← h1]
  exact Int.ediv_eq_zero_of_lt (Int.natCast_nonneg _) (Int.ofNat_lt.2 hAM)
end Go.Proofs.YtkdpcgmnkifbbaaGreatDoor
end
section
namespace Go.Proofs.YtkdpcgmnkifbbaaGreatDoor
open Go.RowKit
def Mid (m M up i : Nat) (ws : List Int) : Prop := ∀ j, j < 232 → ws.getD j 0 = if up ≤ j ∧ j < up + i then (wd M j : Int) else (wd m j : Int)
theorem Mid.zero {m M up : Nat} : Mid m M up 0 (wds m) := fun j hj => by rw [wds_get m j hj, if_neg (by omega)]
theorem Mid.at {m M up i : Nat} {ws : List Int} (h : Mid m M up i ws) (hi : up + i < 232) : ws.getD (up + i) 0 = (wd m (up + i) : Int) := by rw [h _ hi, if_neg (by omega)]
theorem Mid.next {m M up i : Nat} {ws : List Int} (h : Mid m M up i ws) (hl : ws.length = 232) (hi : up + i < 232) {x : Int} (hx : x = (wd M (up + i) : Int)) : Mid m M up (i + 1) (ws.set (up + i) x) := fun j hj => by
 subst hx
 rw [List.getD, List.getElem?_set]
 by_cases e : up + i = j
 ·subst e
  rw [if_pos rfl, if_pos (by omega), if_pos (by omega)]
  rfl
 ·rw [if_neg e]
  have := h j hj
  rw [List.getD] at this
  rw [this]
  by_cases c : up ≤ j ∧ j < up + i
  ·rw [if_pos c, if_pos (by omega)]
  ·rw [if_neg c, if_neg (by omega)]
theorem carry_zeros {m k M up i n : Nat} {f : Int} (hM : (M : Int) = m + f * ((k * BB ^ up : Nat) : Int)) (hk : nw k ≤ i) (hr : rst (m / BB ^ up) k f i = 0) (hI : i = 0 ∨ up + i ≤ n) (hn : nw m ≤ n) (j : Nat) (hj : n ≤ j) : wd M j = 0 := by
 rcases hI with h | h
 ·subst h
  have h1 := lt_nw k
  rw [show nw k = 0 by omega] at h1
  have : k = 0 := by simpa using h1
  subst this
  have : M = m := by simp at hM; omega
  subst this
  exact wd_zero_of_ge (by omega)
 ·rw [carry_done hM hk hr j (by omega)]
  exact wd_zero_of_ge (by omega)
theorem carry_words {m k M up i : Nat} {f : Int} {ws : List Int} (hM : (M : Int) = m + f * ((k * BB ^ up : Nat) : Int)) (hk : nw k ≤ i) (hr : rst (m / BB ^ up) k f i = 0) (h : Mid m M up i ws) (j : Nat) (hj : j < 232) : ws.getD j 0 = (wd M j : Int) := by
 rw [h j hj]
 by_cases c : up ≤ j ∧ j < up + i
 ·rw [if_pos c]
 ·rw [if_neg c]
  rcases Nat.lt_or_ge j up with h1 | h1
  ·rw [wd_of_mod (carry_parts hM).2 h1]
  ·rw [carry_done hM hk hr j (by omega)]
theorem Wd.cast {w : World} {b : Nat} {s : Bool} {n n' : Int} {ws : List Int} (h : Wd w b s n ws) (e : n = n') : Wd w b s n' ws := e ▸ h
theorem mid_next {m M up i : Nat} {ws : List Int} (h : Mid m M up i ws) (hl : ws.length = 232) (hi : up + i < 232) {x : Int} (hx : x = (wd M (up + i) : Int)) : Mid m M up (i + 1) (ws.set (i + up) x) := by
 rw [Nat.add_comm i up]; exact h.next hl hi hx
theorem tdiv_facts {S q : Int} (hq : S.tdiv 1000000000 = q) (h1 : -2000000000000000000 < S) (h2 : S < 2000000000000000000) :
  -1000000000 < S - q * 1000000000 ∧ S - q * 1000000000 < 1000000000 ∧ -2000000001 < q ∧ q < 2000000001 := by
 subst hq
 rcases Int.le_total 0 S with h | h
 ·rw [Int.tdiv_eq_ediv_of_nonneg h]; omega
 ·have e : S.tdiv 1000000000 = -((-S) / 1000000000) := by
   rw [show S = -(-S) by omega, Int.neg_tdiv, Int.tdiv_eq_ediv_of_nonneg (by omega), Int.neg_neg]
  rw [e]; omega
theorem next_rst {m k up i : Nat} {f r u p : Int} (hr : r = rst (m / BB ^ up) k f i) (hu : (wd m (i + up) : Int) = u) (hp : p = f * (wd k i : Int)) (r' : Int) (h : r' = (u + r + p) / 1000000000) :
  r' = rst (m / BB ^ up) k f (i + 1) := by
 rw [rst_succ, wd_div, Nat.add_comm up i, hu, ← hr, ← hp, h]
theorem next_word {m k M up i : Nat} {f r u p : Int} (hr : r = rst (m / BB ^ up) k f i) (hM : (M : Int) = m + f * ((k * BB ^ up : Nat) : Int)) (hu : (wd m (i + up) : Int) = u) (hp : p = f * (wd k i : Int)) (x' : Int) (h : x' = (u + r + p) % 1000000000) :
  x' = (wd M (up + i) : Int) := by
 have := rst_word (m / BB ^ up) k (M / BB ^ up) f i (carry_parts hM).1
 rw [wd_div, wd_div, Nat.add_comm up i, hu, ← hr, ← hp] at this
 rw [h, this, Nat.add_comm up i]
set_option maxRecDepth 100000 in
set_option maxHeartbeats 2000000 in
theorem carry_calls (bx bz : Nat) (sx sy : Bool) (m k M : Nat) (f : Int) (up : Nat) (w : World) (hx : Mg w bx sx m) (hy : Mg w bz sy k) (hne : bz ≠ bx)
  (hf1 : -1000000000 < f) (hf2 : f < 1000000000) (hup : up + nw k ≤ 232) (hM : (M : Int) = m + f * ((k * BB ^ up : Nat) : Int)) (hMb : M < BB ^ 232) :
  Calls Tryz.prog 132 #[.pointer (some ⟨bx, 0, none⟩), .pointer (some ⟨bz, 0, none⟩), .int .i64 f, .int .i64 up] w
   fun e w' => e = .returned (.tuple #[]) ∧ Mg w' bx sx M ∧ w.grownBy w' (some bx) := by
 have hm := hx.lt
 have HM := Lib.hid hM; clear hM
 have HX := Lib.hid hx; clear hx
 have HY := Lib.hid hy; clear hy
 have HU := Lib.hid hup; clear hup
 have hlm := Lib.hid hm; clear hm
 have hlM := Lib.hid hMb; clear hMb
 have hnk : nw k ≤ 232 := HY.out.nw
 generalize hK : nw k = K at hnk
 have HK := Lib.hid hK; clear hK
 go_enter Tryz.func132, Tryz.ntmps132
 go_wp2
 go_loopg [8, 9] 1000 (fun g v8 v9 wr => ∃ (i n : Nat) (r : Int) (ws : List Int), v8 = .int .i64 r ∧ v9 = .int .i64 (i : Int) ∧ up + i ≤ 232 ∧ g + i = 1000 ∧ n ≤ 232 ∧ Hid (r = rst (m / BB ^ up) k f i) ∧ Hid (nw m ≤ n) ∧ Hid (i = 0 ∨ up + i ≤ n) ∧ Hid (Mid m M up i ws) ∧ Hid (Wd wr bx sx (n : Int) ws) ∧ Hid (w.grownBy wr (some bx)))
 case atStart =>
  have h232 := HX.out.nw
  have hu232 := HU.out
  exact ⟨0, nw m, 0, wds m, rfl, rfl, by omega, by omega, h232, Lib.hid (rst_zero _ _ _).symm, Lib.hid (Nat.le_refl _), Lib.hid (.inl rfl), Lib.hid Mid.zero, Lib.hid HX.out.at_, Lib.hid (gby_refl _ _)⟩
 case round =>
  obtain ⟨i, n, r, ws, rfl, rfl, hi, hg, hn, HR, HNM, HI, HMID, HW, HG⟩ := hrel
  have HYr := Lib.hid (HY.out.grown HG.out (by simpa using hne))
  have cy : wr.cell? ⟨bz, 1, none⟩ = some (.int .i64 (K : Int)) := by have := HYr.out.c1; rwa [HK.out] at this
  have cx := HW.out.c1
  have fx := HW.out.fz 1
  rcases Nat.lt_or_ge i K with hiK | hiK
  ·have hlt : up + i < 232 := by have h1 := HU.out; have h2 := HK.out; omega
   have ck := HYr.out.cw i (by omega)
   have cu := HW.out.cw (up + i) hlt
   have fu := HW.out.fz (2 + (up + i))
   rw [HMID.out.at hlt] at cu
   rw [Nat.add_comm up i] at cu fu
   have hu := wd_lt m (i + up)
   have hv := wd_lt k i
   have hr := rst_bounds (m / BB ^ up) k f i hf1 hf2
   rw [← HR.out] at hr
   obtain ⟨hr1, hr2⟩ := hr
   generalize hue : (wd m (i + up) : Int) = u at cu
   generalize hve : (wd k i : Int) = v at ck
   have hu0 : 0 ≤ u ∧ u < 1000000000 := by omega
   have hv0 : 0 ≤ v ∧ v < 1000000000 := by omega
   have HUE := Lib.hid hue; clear hue
   have HVE := Lib.hid hve; clear hve
   obtain ⟨hu1, hu2⟩ := hu0
   have hp : -1000000000000000000 < f * v ∧ f * v < 1000000000000000000 := by
    obtain ⟨hv1, hv2⟩ := hv0
    constructor
    ·have : -999999999 * v ≤ f * v := Int.mul_le_mul_of_nonneg_right (by omega) hv1
     omega
    ·have : f * v ≤ 999999999 * v := Int.mul_le_mul_of_nonneg_right (by omega) hv1
     omega
   obtain ⟨hp1, hp2⟩ := hp
   clear hu hv hv0
   obtain ⟨q, hq⟩ : ∃ q : Int, (u + r + f * v).tdiv 1000000000 = q := ⟨_, rfl⟩
   obtain ⟨hq3, hq4, hq5, hq6⟩ := tdiv_facts (S := u + r + f * v) hq (by omega) (by omega)
   obtain ⟨g', rfl⟩ : ∃ g', gk = g' + 1 := ⟨gk - 1, by omega⟩
   have hrn := fun (r' : Int) (h : r' = (u + r + f * v) / 1000000000) => next_rst HR.out HUE.out (congrArg (f * ·) HVE.out.symm) r' h
   have hxn := fun (x' : Int) (h : x' = (u + r + f * v) % 1000000000) => next_word HR.out HM.out HUE.out (congrArg (f * ·) HVE.out.symm) x' h
   have HRN := Lib.hid hrn; clear hrn
   have HXN := Lib.hid hxn; clear hxn
   by_cases hmx : (n : Int) < (i : Int) + (up : Int) + 1
   ·by_cases hD : u + r + f * v - q * 1000000000 < 0
    ·go_wp2
     go_roundg g'
     case measure => omega
     case rel => exact ⟨i + 1, i + up + 1, q - 1, ws.set (i + up) (u + r + f * v - q * 1000000000 + 1000000000), rfl, by go_num, by omega, by omega, by omega, Lib.hid (HRN.out _ (by omega)), Lib.hid (by have := HNM.out; omega), Lib.hid (.inr (by omega)), Lib.hid (mid_next HMID.out HW.out.len hlt (HXN.out _ (by omega))), Lib.hid (((HW.out.setw _ _).setn _).cast (by push_cast; rfl)), Lib.hid (gby_set (gby_set HG.out _ _) _ _)⟩
    ·go_wp2
     go_roundg g'
     case measure => omega
     case rel => exact ⟨i + 1, i + up + 1, q, ws.set (i + up) (u + r + f * v - q * 1000000000), rfl, by go_num, by omega, by omega, by omega, Lib.hid (HRN.out _ (by omega)), Lib.hid (by have := HNM.out; omega), Lib.hid (.inr (by omega)), Lib.hid (mid_next HMID.out HW.out.len hlt (HXN.out _ (by omega))), Lib.hid (((HW.out.setw _ _).setn _).cast (by push_cast; rfl)), Lib.hid (gby_set (gby_set HG.out _ _) _ _)⟩
   ·by_cases hD : u + r + f * v - q * 1000000000 < 0
    ·go_wp2
     go_roundg g'
     case measure => omega
     case rel => exact ⟨i + 1, n, q - 1, ws.set (i + up) (u + r + f * v - q * 1000000000 + 1000000000), rfl, by go_num, by omega, by omega, by omega, Lib.hid (HRN.out _ (by omega)), Lib.hid HNM.out, Lib.hid (.inr (by omega)), Lib.hid (mid_next HMID.out HW.out.len hlt (HXN.out _ (by omega))), Lib.hid ((HW.out.setw _ _).setn _), Lib.hid (gby_set (gby_set HG.out _ _) _ _)⟩
    ·go_wp2
     go_roundg g'
     case measure => omega
     case rel => exact ⟨i + 1, n, q, ws.set (i + up) (u + r + f * v - q * 1000000000), rfl, by go_num, by omega, by omega, by omega, Lib.hid (HRN.out _ (by omega)), Lib.hid HNM.out, Lib.hid (.inr (by omega)), Lib.hid (mid_next HMID.out HW.out.len hlt (HXN.out _ (by omega))), Lib.hid ((HW.out.setw _ _).setn _), Lib.hid (gby_set (gby_set HG.out _ _) _ _)⟩
  ·by_cases hr0 : r = 0
   ·subst hr0
    have hnM := carry_zeros HM.out (by rw [HK.out]; exact hiK) HR.out.symm HI.out HNM.out
    have hwM := carry_words HM.out (by rw [HK.out]; exact hiK) HR.out.symm HMID.out
    have HN1 := Lib.hid hnM; clear hnM
    have HN2 := Lib.hid hwM; clear hwM
    go_wp2_with fail
    refine (trimmed_num bx sx n M ws _ HW.out hn hlM.out HN2.out HN1.out).mono ?_
    rintro e w' ⟨rfl, h1, h2⟩
    have H1 := Lib.hid h1; clear h1
    have H2 := Lib.hid h2; clear h2
    go_wp2
    go_end0
    exact ⟨rfl, H1.out, gby_trans HG.out H2.out⟩
   ·have hr00 : (r != 0) = true := by simpa using hr0
    have hlt : up + i < 232 := carry_room HM.out hlm.out hlM.out (by rw [HK.out]; exact hiK) (by rw [← HR.out]; exact hr0)
    have cu := HW.out.cw (up + i) hlt
    have fu := HW.out.fz (2 + (up + i))
    rw [HMID.out.at hlt] at cu
    rw [Nat.add_comm up i] at cu fu
    have hu := wd_lt m (i + up)
    have hr := rst_bounds (m / BB ^ up) k f i hf1 hf2
    rw [← HR.out] at hr
    obtain ⟨hr1, hr2⟩ := hr
    generalize hue : (wd m (i + up) : Int) = u at cu
    have hu0 : 0 ≤ u ∧ u < 1000000000 := by omega
    have HUE := Lib.hid hue; clear hue
    obtain ⟨hu1, hu2⟩ := hu0
    have HVE : Hid ((wd k i : Int) = 0) := Lib.hid (by rw [wd_zero_of_ge (by rw [HK.out]; exact hiK)]; rfl)
    clear hu
    obtain ⟨q, hq⟩ : ∃ q : Int, (u + r).tdiv 1000000000 = q := ⟨_, rfl⟩
    obtain ⟨hq3, hq4, hq5, hq6⟩ := tdiv_facts (S := u + r) hq (by omega) (by omega)
    obtain ⟨g', rfl⟩ : ∃ g', gk = g' + 1 := ⟨gk - 1, by omega⟩
    have hrn := fun (r' : Int) (h : r' = (u + r) / 1000000000) => next_rst (p := 0) HR.out HUE.out (by rw [HVE.out, Int.mul_zero]) r' (by rw [Int.add_zero]; exact h)
    have hxn := fun (x' : Int) (h : x' = (u + r) % 1000000000) => next_word (p := 0) HR.out HM.out HUE.out (by rw [HVE.out, Int.mul_zero]) x' (by rw [Int.add_zero]; exact h)
    have HRN := Lib.hid hrn; clear hrn
    have HXN := Lib.hid hxn; clear hxn
    by_cases hmx : (n : Int) < (i : Int) + (up : Int) + 1
    ·by_cases hD : u + r - q * 1000000000 < 0
     ·go_wp2
      go_roundg g'
      case measure => omega
      case rel => exact ⟨i + 1, i + up + 1, q - 1, ws.set (i + up) (u + r - q * 1000000000 + 1000000000), rfl, by go_num, by omega, by omega, by omega, Lib.hid (HRN.out _ (by omega)), Lib.hid (by have := HNM.out; omega), Lib.hid (.inr (by omega)), Lib.hid (mid_next HMID.out HW.out.len hlt (HXN.out _ (by omega))), Lib.hid (((HW.out.setw _ _).setn _).cast (by push_cast; rfl)), Lib.hid (gby_set (gby_set HG.out _ _) _ _)⟩
     ·go_wp2
      go_roundg g'
      case measure => omega
      case rel => exact ⟨i + 1, i + up + 1, q, ws.set (i + up) (u + r - q * 1000000000), rfl, by go_num, by omega, by omega, by omega, Lib.hid (HRN.out _ (by omega)), Lib.hid (by have := HNM.out; omega), Lib.hid (.inr (by omega)), Lib.hid (mid_next HMID.out HW.out.len hlt (HXN.out _ (by omega))), Lib.hid (((HW.out.setw _ _).setn _).cast (by push_cast; rfl)), Lib.hid (gby_set (gby_set HG.out _ _) _ _)⟩
    ·by_cases hD : u + r - q * 1000000000 < 0
     ·go_wp2
      go_roundg g'
      case measure => omega
      case rel => exact ⟨i + 1, n, q - 1, ws.set (i + up) (u + r - q * 1000000000 + 1000000000), rfl, by go_num, by omega, by omega, by omega, Lib.hid (HRN.out _ (by omega)), Lib.hid HNM.out, Lib.hid (.inr (by omega)), Lib.hid (mid_next HMID.out HW.out.len hlt (HXN.out _ (by omega))), Lib.hid ((HW.out.setw _ _).setn _), Lib.hid (gby_set (gby_set HG.out _ _) _ _)⟩
     ·go_wp2
      go_roundg g'
      case measure => omega
      case rel => exact ⟨i + 1, n, q, ws.set (i + up) (u + r - q * 1000000000), rfl, by go_num, by omega, by omega, by omega, Lib.hid (HRN.out _ (by omega)), Lib.hid HNM.out, Lib.hid (.inr (by omega)), Lib.hid (mid_next HMID.out HW.out.len hlt (HXN.out _ (by omega))), Lib.hid ((HW.out.setw _ _).setn _), Lib.hid (gby_set (gby_set HG.out _ _) _ _)⟩
end Go.Proofs.YtkdpcgmnkifbbaaGreatDoor
end
section
namespace Go.Proofs.YtkdpcgmnkifbbaaGreatDoor
open Go.RowKit
def Drawn (w w' : World) : Prop := ∃ n, w' = w.drewN n
theorem Drawn.refl (w : World) : Drawn w w := ⟨0, rfl⟩
theorem Drawn.step {w w' : World} (h : Drawn w w') (n : Nat) : Drawn w (w'.drewN n) := by
 obtain ⟨m, rfl⟩ := h; exact ⟨m + n, World.drewN_drewN ..⟩
theorem Mg.drawn {w w' : World} {b : Nat} {s : Bool} {m : Nat} (h : Mg w b s m) (hd : Drawn w w') : Mg w' b s m := by
 obtain ⟨n, rfl⟩ := hd; exact h.drewN n
def Alike (m k i : Nat) : Prop := ∀ l, i ≤ l → wd m l = wd k l
theorem Alike.div {m k i : Nat} (h : Alike m k i) (hm : m < BB ^ 232) (hk : k < BB ^ 232) : m / BB ^ i = k / BB ^ i := by
 refine eq_of_wd (n := 232) (Nat.lt_of_le_of_lt (Nat.div_le_self _ _) hm) (Nat.lt_of_le_of_lt (Nat.div_le_self _ _) hk) fun l _ => ?_
 rw [wd_div, wd_div, h _ (by omega)]
theorem Alike.start {m k : Nat} (h : nw m = nw k) : Alike m k (nw m) := fun l hl => by rw [wd_zero_of_ge hl, wd_zero_of_ge (by omega)]
theorem Alike.step {m k i : Nat} (h : Alike m k (i + 1)) (he : wd m i = wd k i) : Alike m k i := fun l hl => by
 rcases Nat.eq_or_lt_of_le hl with e | e
 ·rw [← e, he]
 ·exact h l e
theorem Alike.lt {m k i : Nat} (h : Alike m k (i + 1)) (hm : m < BB ^ 232) (hk : k < BB ^ 232) (he : wd m i < wd k i) : m < k := by
 have h1 := h.div hm hk
 have h2 := div_wd m i
 have h3 := div_wd k i
 rw [h1] at h2
 rcases Nat.lt_or_ge m k with h4 | h4
 ·exact h4
 ·have := Nat.div_le_div_right (c := BB ^ i) h4
  omega
theorem Alike.comm {m k i : Nat} (h : Alike m k i) : Alike k m i := fun l hl => (h l hl).symm
theorem lt_of_nw {m k : Nat} (h : nw m < nw k) : m < k := by
 rcases Nat.lt_or_ge m k with h1 | h1
 ·exact h1
 ·have := nw_mono h1; omega
def BeyondPost (m k : Nat) (w : World) (e : Ending) (w' : World) : Prop := ∃ r : Int, e = .returned (.int .i64 r) ∧ (0 ≤ r ↔ k ≤ m) ∧ -1000000001 < r ∧ r < 1000000001 ∧ Drawn w w'
set_option maxRecDepth 100000 in
set_option maxHeartbeats 2000000 in
theorem beyond_calls (bx bz : Nat) (sx sy : Bool) (m k : Nat) (w : World) (hx : Mg w bx sx m) (hy : Mg w bz sy k) :
  Calls Tryz.prog 133 #[.pointer (some ⟨bx, 0, none⟩), .pointer (some ⟨bz, 0, none⟩)] w (BeyondPost m k w) := by
 have hn1 := hx.nw
 have hn2 := hy.nw
 have c1 := hx.c1
 have c2 := hy.c1
 have HX := Lib.hid hx; clear hx
 have HY := Lib.hid hy; clear hy
 generalize hN : nw m = N at c1 hn1
 generalize hK : nw k = K at c2 hn2
 have HN := Lib.hid hN; clear hN
 have HK := Lib.hid hK; clear hK
 by_cases hne : N = K
 ·subst hne
  go_enter Tryz.func133, Tryz.ntmps133
  go_wp2
  go_quiet (fail)
  go_wp2
  go_loopg [5] N (fun j v wr => j ≤ N ∧ v = .int .i64 ((j : Int) - 1) ∧ Hid (Alike m k j) ∧ Hid (Drawn w wr))
  case atStart => exact ⟨Nat.le_refl _, rfl, Lib.hid (by have := Alike.start (m := m) (k := k) (HN.out.trans HK.out.symm); rwa [HN.out] at this), Lib.hid ((Drawn.refl w).step _)⟩
  case round =>
   obtain ⟨hj, rfl, HA, HD⟩ := hrel
   rcases Nat.eq_zero_or_pos gk with h0 | h0
   ·subst h0
    go_wp2
    go_ret
    exact ⟨0, rfl, ⟨fun _ => by
     have := HA.out.div HX.out.lt HY.out.lt
     simp at this
     omega, fun _ => Int.le_refl _⟩, by omega, by omega, HD.out⟩
   ·obtain ⟨j, rfl⟩ : ∃ j, gk = j + 1 := ⟨gk - 1, by omega⟩
    have e1 : ((j + 1 : Nat) : Int) - 1 = j := by omega
    rw [e1]
    have a1 := (HX.out.drawn HD.out).cw j (by omega)
    have a2 := (HY.out.drawn HD.out).cw j (by omega)
    have hj232 : (j : Int) < 232 := by omega
    have hu := wd_lt m j
    have hv := wd_lt k j
    generalize hue : (wd m j : Int) = u at a1
    generalize hve : (wd k j : Int) = v at a2
    have hu0 : 0 ≤ u ∧ u < 1000000000 := by omega
    have hv0 : 0 ≤ v ∧ v < 1000000000 := by omega
    have HUE := Lib.hid hue; clear hue
    have HVE := Lib.hid hve; clear hve
    obtain ⟨hu1, hu2⟩ := hu0
    obtain ⟨hv1, hv2⟩ := hv0
    clear hu hv
    by_cases huv : u = v
    ·subst huv
     clear e1
     go_wp2
     go_quiet (fail)
     go_wp2
     go_roundg j
     case measure => omega
     case rel => exact ⟨by omega, rfl, Lib.hid (HA.out.step (by have h1 := HUE.out; have h2 := HVE.out; omega)), Lib.hid (HD.out.step _)⟩
    ·have huv1 : (u != v) = true := by simpa using huv
     clear e1
     go_wp2
     go_quiet (fail)
     go_wp2
     go_quiet (fail)
     go_wp2
     go_ret
     refine ⟨u - v, rfl, ⟨fun h => ?_, fun h => ?_⟩, by omega, by omega, (HD.out.step _).step _⟩
     ·exact Nat.le_of_lt (HA.out.comm.lt HY.out.lt HX.out.lt (by have h1 := HUE.out; have h2 := HVE.out; omega))
     ·have h1 := HUE.out
      have h2 := HVE.out
      rcases Int.lt_or_le (u - v) 0 with h3 | h3
      ·have := HA.out.lt HX.out.lt HY.out.lt (by omega); omega
      ·exact h3
 ·have hne1 : ((N : Int) != (K : Int)) = true := by simp; omega
  go_enter Tryz.func133, Tryz.ntmps133
  go_wp2
  go_quiet (fail)
  go_wp2
  go_quiet (fail)
  go_wp2
  go_ret
  refine ⟨(N : Int) - K, rfl, ⟨fun h => ?_, fun h => ?_⟩, by omega, by omega, ((Drawn.refl w).step _).step _⟩
  ·exact Nat.le_of_lt (lt_of_nw (by have h1 := HN.out; have h2 := HK.out; omega))
  ·have h1 := HN.out
   have h2 := HK.out
   have := nw_mono h
   omega
end Go.Proofs.YtkdpcgmnkifbbaaGreatDoor
end
