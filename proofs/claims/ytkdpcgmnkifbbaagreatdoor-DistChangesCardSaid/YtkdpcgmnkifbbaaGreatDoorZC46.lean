/- Joined by a program of this session out of its texts, with only what the last theorem needs: Vcq. No conditions but those stated. -/
import Derived.Test.YtkdpcgmnkifbbaaGreatDoorZC41
import Derived.Test.YtkdpcgmnkifbbaaGreatDoorZC14
import Derived.Test.YtkdpcgmnkifbbaaGreatDoorZC40
import Derived.Test.YtkdpcgmnkifbbaaGreatDoorTie
import Derived.Test.YtkdpcgmnkifbbaaGreatDoorCards
import Derived.SevenTiedAt
set_option linter.unusedVariables false
set_option linter.unusedSimpArgs false
namespace Go.Proofs.YtkdpcgmnkifbbaaGreatDoorW.PrintWords
end Go.Proofs.YtkdpcgmnkifbbaaGreatDoorW.PrintWords
namespace Go.Proofs.YtkdpcgmnkifbbaaGreatDoor
open Go.ChangeShapes Go.WideShapes Go.ChangeAt Go.RowKit Go.Proofs.YtkdpcgmnkifbbaaGreatDoorW.PrintWords
open Go.ChangeMaps (open_string shut_string)
theorem distChanges_calls (w : World) (A0 : Option Addr) (cap0 : Nat) (l0 : List D.S60) (hr0 : Kd.C D.k60 w A0 l0.length l0) (hc0 : l0.length ≤ cap0) (hsz0 : szs l0) (hl0 : l0.length ≤ 4611686018427387904) (n1 : Int) (hn1 : -9223372036854775808 ≤ n1 ∧ n1 < 9223372036854775808) (n2 : Int) (hn2 : -9223372036854775808 ≤ n2 ∧ n2 < 9223372036854775808) (ht : Tabs w) :
  Calls Tryz.prog 6 #[.slice A0 l0.length cap0, .int .i64 n1, .int .i64 n2] w fun e w' => e = .returned (.bool true) ∧ Below w.heap.size w w' := by
 obtain ⟨k, hk⟩ := (changes_run l0 n1 n2 hsz0 hl0 hn1 hn2).get
 exact D.metrolablaw26_DistChanges.calls k A0 cap0 l0 n1 n2 true rfl w hr0 hc0 hk (Aside0.mk ht)
set_option maxRecDepth 100000 in
set_option maxHeartbeats 4000000 in
theorem distChanges_lifted (os : Os) (started : os.Started) (H : Type) (enc : TypeId × Value → H) :
  ReturnsInHanded {} Tryz.checked os 6 .any (fun w args => (Rows.distChangesSpec.pre enc Tryz.prog Tryz.f6 [] false w args ∧ laidMetH Tryz.prog Rows.distChangesRow.laid w) ∧ sizedMet enc Tryz.prog Tryz.f6 (OpenSpec.ofChange Rows.distChangesSpec) false w args)
   (Rows.distChangesSpec.post enc Tryz.prog Tryz.f6 false true false false) := by
 refine returnsInHanded_of_change_and (C := Tryz.checked) (X := fun w _ => laidMetH Tryz.prog Rows.distChangesRow.laid w) (fun _ _ _ hh h => h.of_heap hh) own started (by kernel_rfl) Tryz.func6
  (ChangeSpec.witness_shaped (enc := enc) (C := Tryz.checked) (os := os) (X := fun w _ => laidMetH Tryz.prog Rows.distChangesRow.laid w) false (World.laidAll Tryz.prog os laidAll) #[.slice none 0 0, .int .i64 0, .int .i64 0] 8 (World.laidAll_os _ _ _)
   (World.shaped_of_ZipB (by kernel_rfl) (by kernel_rfl)) (by kernel_rfl) (by kernel_rfl) (by kernel_rfl) (wit_met os _)) ?_
 intro W base args ds gs before hval0 hW hcnd hsz0 hL0 _
 have HLA := Aside0.mk hL0; clear hL0 hcnd
 have hsz : (DataW.weightsEach Tryz.prog (Tryz.f6.params.toList ++ Rows.distChangesSpec.plain.varTypes Tryz.prog) (ds ++ gs)).all (· ≤ reachBytes) = true := hsz0
 have hval : ∀ (j : Nat) t v, Tryz.f6.params[j]? = some t → args[j]? = some v → Value.okWide Tryz.prog W .any base t v := hval0
 have hW' := hW
 obtain ⟨p, q, hA0, hV, rfl, hfz, hnd⟩ := hW
 have hA : DataW.TrodAll enc Tryz.prog W 0 (fun _ => true) true Tryz.f6.params.toList args.toList ds p := hA0
 rw [Tryz.params6] at hA hval hsz
 obtain ⟨v0, vs0, d0, ds0, p0, q0, hargs, rfl, rfl, h0, r0⟩ := trodAll_cons hA
 obtain ⟨v1, vs1, d1, ds1, p1, q1, rfl, rfl, rfl, h1, r1⟩ := trodAll_cons r0
 obtain ⟨v2, vs2, d2, ds2, p2, q2, rfl, rfl, rfl, h2, r2⟩ := trodAll_cons r1
 obtain ⟨rfl, rfl, rfl⟩ := trodAll_nil r2
 have hargs2 : args = #[v0, v1, v2] := Array.toList_inj.1 hargs
 subst hargs2
 obtain ⟨rfl, rfl⟩ := trodVars_none hV
 have k0 := h0
 have lt0 : ∀ x ∈ p0, x.block < W.heap.size := by obtain ⟨m, hm⟩ := k0; exact DataW.trod_lt m _ _ _ hm
 obtain ⟨a0, len0, cap0, rfl⟩ := okWide_slice Tryz.underlying22 (hval 0 22 v0 rfl rfl)
 obtain ⟨l0, hlen0, hcap0, hC0, hss0, hll0⟩ := open_ws h0 hsz (j := 0) rfl rfl
 subst hlen0
 obtain ⟨n1, rfl, rfl, rfl, y1⟩ := open_int Tryz.underlying3 (hval 1 3 v1 rfl rfl) h1
 have b1 : -9223372036854775808 ≤ n1 ∧ n1 < 9223372036854775808 := by
  have z := y1
  simp only [Lit.wf, Bool.and_eq_true, decide_eq_true_eq] at z
  have z1 : (IntKind.min .i64) = -9223372036854775808 := by decide
  have z2 : (IntKind.max .i64) = 9223372036854775807 := by decide
  rw [z1, z2] at z
  omega
 obtain ⟨n2, rfl, rfl, rfl, y2⟩ := open_int Tryz.underlying3 (hval 2 3 v2 rfl rfl) h2
 have b2 : -9223372036854775808 ≤ n2 ∧ n2 < 9223372036854775808 := by
  have z := y2
  simp only [Lit.wf, Bool.and_eq_true, decide_eq_true_eq] at z
  have z1 : (IntKind.min .i64) = -9223372036854775808 := by decide
  have z2 : (IntKind.max .i64) = 9223372036854775807 := by decide
  rw [z1, z2] at z
  omega
 clear hA0 hval0 hsz0 hsz
 refine (distChanges_calls W a0 cap0 l0 hC0 hcap0 hss0 hll0 n1 b1 n2 b2 (tabs_of_laid HLA.out)).mono fun e W' ⟨he, bel⟩ => ?_
 subst he
 exact ⟨_, rfl, _, _, _, [], _, [], hW', trodAll_mk1 (shut_bool Tryz.underlying4 _), (trodAll_cons_mk (Below.trod laidOut (by kernel_rfl) (of_decide_eq_true (by kernel_rfl)) k0 bel lt0) (trodAll_cons_mk (shut_int Tryz.underlying3 y1) (trodAll_cons_mk (shut_int Tryz.underlying3 y2) trodAll_mk0))), rfl, bel.frame _, fun h => by cases h⟩
end Go.Proofs.YtkdpcgmnkifbbaaGreatDoor
