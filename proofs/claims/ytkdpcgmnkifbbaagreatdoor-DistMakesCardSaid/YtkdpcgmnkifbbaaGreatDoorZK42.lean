/- Joined by a program of this session out of its texts, with only what the last theorem needs: Vbq. No conditions but those stated. -/
import Derived.Test.YtkdpcgmnkifbbaaGreatDoorZK37
import Derived.Test.YtkdpcgmnkifbbaaGreatDoorZK13
import Derived.Test.YtkdpcgmnkifbbaaGreatDoorZK36
import Derived.Test.YtkdpcgmnkifbbaaGreatDoorTie
import Derived.Test.YtkdpcgmnkifbbaaGreatDoorCards
import Derived.SevenTiedAt
set_option linter.unusedVariables false
set_option linter.unusedSimpArgs false
namespace Go.Proofs.YtkdpcgmnkifbbaaGreatDoorW.PrintWords
end Go.Proofs.YtkdpcgmnkifbbaaGreatDoorW.PrintWords
namespace Go.Proofs.YtkdpcgmnkifbbaaGreatDoor
open Go.ChangeShapes Go.WideShapes Go.ChangeAt Go.RowKit Go.Proofs.YtkdpcgmnkifbbaaGreatDoorW.PrintWords
open Go.ChangeMaps (open_string shut_string)
theorem distMakes_calls (w : World) (n0 : Int) (hn0 : -9223372036854775808 ≤ n0 ∧ n0 < 9223372036854775808) (n1 : Int) (hn1 : -9223372036854775808 ≤ n1 ∧ n1 < 9223372036854775808) (n2 : Int) (hn2 : -9223372036854775808 ≤ n2 ∧ n2 < 9223372036854775808) (ht : Tabs w) :
  Calls Tryz.prog 5 #[.int .i64 n0, .int .i64 n1, .int .i64 n2] w fun e w' => e = .returned (.bool true) ∧ Below w.heap.size w w' := by
 obtain ⟨k, hk⟩ := (makes_run n0 n1 n2 hn0 hn1 hn2).get
 exact D.metrolablaw26_DistMakes.calls k n0 n1 n2 true rfl w hk (Aside0.mk ht)
set_option maxRecDepth 100000 in
set_option maxHeartbeats 4000000 in
theorem distMakes_lifted (os : Os) (started : os.Started) (H : Type) (enc : TypeId × Value → H) :
  ReturnsInHanded {} Tryz.checked os 5 .any (fun w args => (Rows.distMakesSpec.pre enc Tryz.prog Tryz.f5 [] false w args ∧ laidMetH Tryz.prog Rows.distMakesRow.laid w) ∧ sizedMet enc Tryz.prog Tryz.f5 (OpenSpec.ofChange Rows.distMakesSpec) false w args)
   (Rows.distMakesSpec.post enc Tryz.prog Tryz.f5 false true false false) := by
 refine returnsInHanded_of_change_and (C := Tryz.checked) (X := fun w _ => laidMetH Tryz.prog Rows.distMakesRow.laid w) (fun _ _ _ hh h => h.of_heap hh) own started (by kernel_rfl) Tryz.func5
  (ChangeSpec.witness_shaped (enc := enc) (C := Tryz.checked) (os := os) (X := fun w _ => laidMetH Tryz.prog Rows.distMakesRow.laid w) false (World.laidAll Tryz.prog os laidAll) #[.int .i64 0, .int .i64 0, .int .i64 0] 8 (World.laidAll_os _ _ _)
   (World.shaped_of_ZipB (by kernel_rfl) (by kernel_rfl)) (by kernel_rfl) (by kernel_rfl) (by kernel_rfl) (wit_met os _)) ?_
 intro W base args ds gs before hval0 hW hcnd hsz0 hL0 _
 have HLA := Aside0.mk hL0; clear hL0 hcnd
 have hsz : (DataW.weightsEach Tryz.prog (Tryz.f5.params.toList ++ Rows.distMakesSpec.plain.varTypes Tryz.prog) (ds ++ gs)).all (· ≤ reachBytes) = true := hsz0
 have hval : ∀ (j : Nat) t v, Tryz.f5.params[j]? = some t → args[j]? = some v → Value.okWide Tryz.prog W .any base t v := hval0
 have hW' := hW
 obtain ⟨p, q, hA0, hV, rfl, hfz, hnd⟩ := hW
 have hA : DataW.TrodAll enc Tryz.prog W 0 (fun _ => true) true Tryz.f5.params.toList args.toList ds p := hA0
 rw [Tryz.params5] at hA hval hsz
 obtain ⟨v0, vs0, d0, ds0, p0, q0, hargs, rfl, rfl, h0, r0⟩ := trodAll_cons hA
 obtain ⟨v1, vs1, d1, ds1, p1, q1, rfl, rfl, rfl, h1, r1⟩ := trodAll_cons r0
 obtain ⟨v2, vs2, d2, ds2, p2, q2, rfl, rfl, rfl, h2, r2⟩ := trodAll_cons r1
 obtain ⟨rfl, rfl, rfl⟩ := trodAll_nil r2
 have hargs2 : args = #[v0, v1, v2] := Array.toList_inj.1 hargs
 subst hargs2
 obtain ⟨rfl, rfl⟩ := trodVars_none hV
 obtain ⟨n0, rfl, rfl, rfl, y0⟩ := open_int Tryz.underlying3 (hval 0 3 v0 rfl rfl) h0
 have b0 : -9223372036854775808 ≤ n0 ∧ n0 < 9223372036854775808 := by
  have z := y0
  simp only [Lit.wf, Bool.and_eq_true, decide_eq_true_eq] at z
  have z1 : (IntKind.min .i64) = -9223372036854775808 := by decide
  have z2 : (IntKind.max .i64) = 9223372036854775807 := by decide
  rw [z1, z2] at z
  omega
 obtain ⟨n1, rfl, rfl, rfl, y1⟩ := open_int Tryz.underlying3 (hval 1 3 v1 rfl rfl) h1
 have b1 : -9223372036854775808 ≤ n1 ∧ n1 < 9223372036854775808 := by
  have z := y1
  simp only [Lit.wf, Bool.and_eq_true, decide_eq_true_eq] at z
  have z1 : (IntKind.min .i64) = -9223372036854775808 := by decide
  have z2 : (IntKind.max .i64) = 9223372036854775807 := by decide
  rw [z1, z2] at z
  omega
 obtain ⟨n2, rfl, rfl, rfl, y2⟩ := open_int Tryz.underlying3 (hval 2 3 v2 rfl rfl) h2
 have b2 : -9223372036854775808 ≤ n2 ∧ n2 < 9223372036854775808 := by
  have z := y2
  simp only [Lit.wf, Bool.and_eq_true, decide_eq_true_eq] at z
  have z1 : (IntKind.min .i64) = -9223372036854775808 := by decide
  have z2 : (IntKind.max .i64) = 9223372036854775807 := by decide
  rw [z1, z2] at z
  omega
 clear hA0 hval0 hsz0 hsz
 refine (distMakes_calls W n0 b0 n1 b1 n2 b2 (tabs_of_laid HLA.out)).mono fun e W' ⟨he, bel⟩ => ?_
 subst he
 exact ⟨_, rfl, _, _, _, [], _, [], hW', trodAll_mk1 (shut_bool Tryz.underlying4 _), (trodAll_cons_mk (shut_int Tryz.underlying3 y0) (trodAll_cons_mk (shut_int Tryz.underlying3 y1) (trodAll_cons_mk (shut_int Tryz.underlying3 y2) trodAll_mk0))), rfl, bel.frame _, fun h => by cases h⟩
end Go.Proofs.YtkdpcgmnkifbbaaGreatDoor
