/- Joined by a program of this session out of its texts, with only what the last theorem needs: Yo. No conditions but those stated. -/
import Derived.Test.YtkdpcgmnkifbbaaGreatDoorRows
import Derived.Test.YtkdpcgmnkifbbaaGreatDoorZC07
import Derived.WalkKit
import Derived.ProofKit
import Derived.OpenShut
import Derived.ShutString
import Derived.ChangeOld
import Derived.Below
import Derived.SizedLaws
import Derived.Handed
import Derived.LaidMore
import Derived.LaidLaws
import Derived.MakeChecks
import Derived.Carry
import Derived.Lib.LaidTab
import Derived.Deep.SlicePairs
set_option linter.unusedVariables false
set_option linter.unusedSimpArgs false
namespace Go.Proofs.YtkdpcgmnkifbbaaGreatDoorW.PrintWords
end Go.Proofs.YtkdpcgmnkifbbaaGreatDoorW.PrintWords
namespace Go.Proofs.YtkdpcgmnkifbbaaGreatDoor
open Go.ChangeShapes Go.WideShapes Go.ChangeAt Go.RowKit Go.Proofs.YtkdpcgmnkifbbaaGreatDoorW.PrintWords
open Go.ChangeMaps (open_string shut_string)
theorem own : ownKnob Tryz.prog.godebug = none := by kernel_rfl
theorem laidOut : laidOutB Tryz.prog = true := by kernel_rfl
theorem cellsW : Tryz.prog.cellsOf 60 = 2 := by kernel_rfl
theorem cellsI : Tryz.prog.cellsOf 3 = 1 := by kernel_rfl
theorem cellsS : Tryz.prog.cellsOf 39 = 1 := by kernel_rfl
def vint : Value → Int | .int _ n => n | _ => 0
def vstr : Value → ByteArray | .string s => s | _ => ByteArray.empty
theorem weightsAll_mem {H : Type} {P : Program} {e : TypeId} {n : Nat} : ∀ {l : List (DataW H)} {d : DataW H}, d ∈ l → n ∈ d.weights P e → n ∈ DataW.weightsAll P e l
 | x :: r, d, h, hn => by
  unfold DataW.weightsAll
  rcases List.mem_cons.1 h with rfl | h
  ·exact List.mem_append_left _ hn
  ·exact List.mem_append_right _ (weightsAll_mem h hn)
open Go.Deep in
theorem open_ws {H : Type} {enc : TypeId × Value → H} {W : World} {A : Option Addr} {len cap : Nat} {d : DataW H} {ps : List MemPlace} {ts : List TypeId} {ds : List (DataW H)} {j : Nat}
  (hd : DataW.Trod enc Tryz.prog W 0 (fun _ => true) true 22 (.slice A len cap) d ps)
  (hsz : (DataW.weightsEach Tryz.prog ts ds).all (· ≤ reachBytes) = true) (ht : ts[j]? = some 22) (hdj : ds[j]? = some d) :
  ∃ l : List D.S60, l.length = len ∧ len ≤ cap ∧ Kd.C D.k60 W A l.length l ∧ (∀ x ∈ l, x.f1.size ≤ 140737488351232) ∧ l.length ≤ 4611686018427387904 := by
 obtain ⟨fuel, hf⟩ := hd
 rcases open_slice_pairs Tryz.underlying22 Tryz.underlying60 cellsW rfl rfl cellsI cellsS hf with ⟨hc, _⟩ | ⟨a, len', cap', m, n, V0, V1, D0, D1, P0, P1, hc, _, hl, hm, hmm, hx, hall⟩
 ·simp [Value.cells] at hc
  obtain ⟨rfl, rfl, rfl⟩ := hc
  exact ⟨[], rfl, Nat.le_refl _, ⟨rfl, by decide, fun h => by simp at h⟩, fun x hx => by simp at hx, by decide⟩
 ·simp [Value.cells] at hc
  obtain ⟨rfl, rfl, rfl⟩ := hc
  simp only [if_true] at hmm
  subst hmm
  simp only [Prod.mk.injEq] at hx
  obtain ⟨rfl, _⟩ := hx
  have hw := DataW.weights_mem_each (P := Tryz.prog) ht hdj
  have hlen := sized_slice hsz ht hdj Tryz.underlying22
  have hb : Tryz.prog.bytesOf 60 = 24 := by kernel_rfl
  rw [hb] at hlen
  have hr : reachBytes = 140737488351232 := by decide
  simp only [List.length_map, List.length_range] at hlen
  have hV : ∀ i, i < m → V0 i = .int .i64 (vint (V0 i)) ∧ V1 i = .string (vstr (V1 i)) ∧ D1 i = .lit (.string (vstr (V1 i)).data.toList) := by
   intro i hi
   obtain ⟨_, _, t0, t1⟩ := hall i hi
   obtain ⟨z, hz, _, _⟩ := DataW.trod_int Tryz.underlying3 t0
   obtain ⟨s, hs, hs2, _⟩ := DataW.trod_string Tryz.underlying39 t1
   simp only [List.cons.injEq, and_true] at hz hs
   simp only [Prod.mk.injEq] at hs2
   rw [hz, hs]
   exact ⟨rfl, rfl, hs2.1⟩
  refine ⟨(List.range len).map fun i => ⟨vint (V0 i), vstr (V1 i)⟩, by simp, hl, ⟨rfl, ?_, fun _ => ⟨a, rfl, fun j p hp => ?_⟩⟩, fun x hx => ?_, ?_⟩
  ·simp only [List.length_map, List.length_range]; omega
  ·rw [List.getElem?_map] at hp
   obtain ⟨i, hi, rfl⟩ := Option.map_eq_some_iff.1 hp
   have hji : i = j ∧ j < len := by
    have h5 := List.getElem?_eq_some_iff.1 hi
    obtain ⟨h6, h7⟩ := h5
    rw [List.length_range] at h6
    rw [List.getElem_range] at h7
    exact ⟨h7.symm, h6⟩
   obtain ⟨rfl, hlt⟩ := hji
   obtain ⟨c0, c1, _, _⟩ := hall i (by omega)
   obtain ⟨v0, v1, _⟩ := hV i (by omega)
   refine ⟨[.int .i64 (vint (V0 i)), .string (vstr (V1 i))], rfl, D.k60_mk W ⟨vint (V0 i), vstr (V1 i)⟩, fun q u hu => ?_⟩
   match q, hu with
   | 0, hu => cases hu; rw [← v0]; exact c0
   | 1, hu => cases hu; rw [← v1]; exact c1
   | q + 2, hu => simp at hu
  ·obtain ⟨i, hi, rfl⟩ := List.mem_map.1 hx
   have hi2 := List.mem_range.1 hi
   obtain ⟨_, _, e1⟩ := hV i (by omega)
   have hmem : (vstr (V1 i)).data.toList.length ∈ DataW.weights Tryz.prog 22 (.slice ((List.range len).map fun i => (DataW.agg [D0 i, D1 i])) ((List.range (m - len)).map fun j => .agg [D0 (len + j), D1 (len + j)])) := by
    have hu := Tryz.underlying22
    simp only [DataW.weights, hu]
    refine List.mem_cons_of_mem _ (List.mem_append_left _ ?_)
    refine weightsAll_mem (d := .agg [D0 i, D1 i]) (List.mem_map.2 ⟨i, hi, rfl⟩) ?_
    have hu2 := Tryz.underlying60
    simp only [DataW.weights, hu2]
    rw [e1]
    simp [DataW.weightsEach, DataW.weights]
   have := List.all_eq_true.1 hsz _ (hw _ hmem)
   have h3 : (vstr (V1 i)).data.toList.length ≤ reachBytes := by simpa using this
   rw [Array.length_toList, hr] at h3
   exact h3
  ·simp only [List.length_map, List.length_range]; omega
end Go.Proofs.YtkdpcgmnkifbbaaGreatDoor
