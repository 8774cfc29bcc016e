/- Joined by a program of this session out of its texts, with only what the last theorem needs: Vaq. No conditions but those stated. -/
import Derived.Test.YtkdpcgmnkifbbaaGreatDoorZM23
import Derived.Test.YtkdpcgmnkifbbaaGreatDoorZM11
import Derived.Test.YtkdpcgmnkifbbaaGreatDoorZM22
import Derived.Test.YtkdpcgmnkifbbaaGreatDoorTie
import Derived.Test.YtkdpcgmnkifbbaaGreatDoorCards
import Derived.SevenTiedAt
set_option linter.unusedVariables false
set_option linter.unusedSimpArgs false
namespace Go.Proofs.YtkdpcgmnkifbbaaGreatDoorW.PrintWords
end Go.Proofs.YtkdpcgmnkifbbaaGreatDoorW.PrintWords
namespace Go.Proofs.YtkdpcgmnkifbbaaGreatDoor
open Go.ChangeShapes Go.WideShapes Go.ChangeAt Go.RowKit Go.Proofs.YtkdpcgmnkifbbaaGreatDoorW.PrintWords
open Go.ChangeMaps (open_string shut_string)
theorem distMeasures_calls (w : World) (A0 : Option Addr) (cap0 : Nat) (l0 : List D.S60) (hr0 : Kd.C D.k60 w A0 l0.length l0) (hc0 : l0.length ≤ cap0) (hsz0 : szs l0) (hl0 : l0.length ≤ 4611686018427387904) (ht : Tabs w) :
  Calls Tryz.prog 4 #[.slice A0 l0.length cap0] w fun e w' => e = .returned (.bool true) ∧ Below w.heap.size w w' := by
 obtain ⟨k, hk⟩ := (measures_run l0 hsz0 hl0).get
 exact D.metrolablaw26_DistMeasures.calls k A0 cap0 l0 true rfl w hr0 hc0 hk (Aside0.mk ht)
set_option maxRecDepth 100000 in
set_option maxHeartbeats 4000000 in
theorem distMeasures_lifted (os : Os) (started : os.Started) (H : Type) (enc : TypeId × Value → H) :
  ReturnsInHanded {} Tryz.checked os 4 .any (fun w args => (Rows.distMeasuresSpec.pre enc Tryz.prog Tryz.f4 [] false w args ∧ laidMetH Tryz.prog Rows.distMeasuresRow.laid w) ∧ sizedMet enc Tryz.prog Tryz.f4 (OpenSpec.ofChange Rows.distMeasuresSpec) false w args)
   (Rows.distMeasuresSpec.post enc Tryz.prog Tryz.f4 false true false false) := by
 refine returnsInHanded_of_change_and (C := Tryz.checked) (X := fun w _ => laidMetH Tryz.prog Rows.distMeasuresRow.laid w) (fun _ _ _ hh h => h.of_heap hh) own started (by kernel_rfl) Tryz.func4
  (ChangeSpec.witness_shaped (enc := enc) (C := Tryz.checked) (os := os) (X := fun w _ => laidMetH Tryz.prog Rows.distMeasuresRow.laid w) false (World.laidAll Tryz.prog os laidAll) #[.slice none 0 0] 8 (World.laidAll_os _ _ _)
   (World.shaped_of_ZipB (by kernel_rfl) (by kernel_rfl)) (by kernel_rfl) (by kernel_rfl) (by kernel_rfl) (wit_met os _)) ?_
 intro W base args ds gs before hval0 hW hcnd hsz0 hL0 _
 have HLA := Aside0.mk hL0; clear hL0 hcnd
 have hsz : (DataW.weightsEach Tryz.prog (Tryz.f4.params.toList ++ Rows.distMeasuresSpec.plain.varTypes Tryz.prog) (ds ++ gs)).all (· ≤ reachBytes) = true := hsz0
 have hval : ∀ (j : Nat) t v, Tryz.f4.params[j]? = some t → args[j]? = some v → Value.okWide Tryz.prog W .any base t v := hval0
 have hW' := hW
 obtain ⟨p, q, hA0, hV, rfl, hfz, hnd⟩ := hW
 have hA : DataW.TrodAll enc Tryz.prog W 0 (fun _ => true) true Tryz.f4.params.toList args.toList ds p := hA0
 rw [Tryz.params4] at hA hval hsz
 obtain ⟨v0, vs0, d0, ds0, p0, q0, hargs, rfl, rfl, h0, r0⟩ := trodAll_cons hA
 obtain ⟨rfl, rfl, rfl⟩ := trodAll_nil r0
 have hargs2 : args = #[v0] := Array.toList_inj.1 hargs
 subst hargs2
 obtain ⟨rfl, rfl⟩ := trodVars_none hV
 have k0 := h0
 have lt0 : ∀ x ∈ p0, x.block < W.heap.size := by obtain ⟨m, hm⟩ := k0; exact DataW.trod_lt m _ _ _ hm
 obtain ⟨a0, len0, cap0, rfl⟩ := okWide_slice Tryz.underlying22 (hval 0 22 v0 rfl rfl)
 obtain ⟨l0, hlen0, hcap0, hC0, hss0, hll0⟩ := open_ws h0 hsz (j := 0) rfl rfl
 subst hlen0
 clear hA0 hval0 hsz0 hsz
 refine (distMeasures_calls W a0 cap0 l0 hC0 hcap0 hss0 hll0 (tabs_of_laid HLA.out)).mono fun e W' ⟨he, bel⟩ => ?_
 subst he
 exact ⟨_, rfl, _, _, _, [], _, [], hW', trodAll_mk1 (shut_bool Tryz.underlying4 _), (trodAll_cons_mk (Below.trod laidOut (by kernel_rfl) (of_decide_eq_true (by kernel_rfl)) k0 bel lt0) trodAll_mk0), rfl, bel.frame _, fun h => by cases h⟩
end Go.Proofs.YtkdpcgmnkifbbaaGreatDoor
