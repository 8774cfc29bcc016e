/- Joined by a program of this session out of its texts, with only what the last theorem needs: Yq. No conditions but those stated. -/
import Derived.Test.YtkdpcgmnkifbbaaGreatDoorZ24
import Derived.Test.YtkdpcgmnkifbbaaGreatDoorZ11
import Derived.Test.YtkdpcgmnkifbbaaGreatDoorZ23
import Derived.Test.YtkdpcgmnkifbbaaGreatDoorTie
import Derived.Test.YtkdpcgmnkifbbaaGreatDoorCards
import Derived.SevenTiedAt
set_option linter.unusedVariables false
set_option linter.unusedSimpArgs false
namespace Go.Proofs.YtkdpcgmnkifbbaaGreatDoorW.PrintWords
end Go.Proofs.YtkdpcgmnkifbbaaGreatDoorW.PrintWords
namespace Go.Proofs.YtkdpcgmnkifbbaaGreatDoor
open Go.ChangeShapes Go.WideShapes Go.ChangeAt Go.RowKit Go.Proofs.YtkdpcgmnkifbbaaGreatDoorW.PrintWords
open Go.ChangeMaps (open_string shut_string)
theorem places_calls (A : Option Addr) (cap : Nat) (l : List D.S60) (lo hi : Int) (p : ByteArray) (w : World) (hr : Kd.C D.k60 w A l.length l) (hc : l.length ≤ cap) (hsz : szs l) (hl : l.length ≤ 4611686018427387904) (hp : p.size ≤ 140737488351232) (ht : Tabs w) :
  Calls Tryz.prog 3 #[.slice A l.length cap, .agg #[.int .i64 lo, .int .i64 hi], .string p] w fun e w' => e = .returned (.bool true) ∧ Below w.heap.size w w' := by
 obtain ⟨k, hk⟩ := (places_run l lo hi p hsz hl hp).get
 exact D.metrolablaw26_DistPlaces.calls k A cap l lo hi p true rfl w hr hc hk (Aside0.mk ht)
set_option maxRecDepth 100000 in
set_option maxHeartbeats 4000000 in
theorem places_lifted (os : Os) (started : os.Started) (H : Type) (enc : TypeId × Value → H) :
  ReturnsInHanded {} Tryz.checked os 3 .any (fun w args => (Rows.distPlacesSpec.pre enc Tryz.prog Tryz.f3 [] false w args ∧ laidMetH Tryz.prog Rows.distPlacesRow.laid w) ∧ sizedMet enc Tryz.prog Tryz.f3 (OpenSpec.ofChange Rows.distPlacesSpec) false w args)
   (Rows.distPlacesSpec.post enc Tryz.prog Tryz.f3 false true false false) := by
 refine returnsInHanded_of_change_and (C := Tryz.checked) (X := fun w _ => laidMetH Tryz.prog Rows.distPlacesRow.laid w) (fun _ _ _ hh h => h.of_heap hh) own started (by kernel_rfl) Tryz.func3
  (ChangeSpec.witness_shaped (enc := enc) (C := Tryz.checked) (os := os) (X := fun w _ => laidMetH Tryz.prog Rows.distPlacesRow.laid w) false (World.laidAll Tryz.prog os laidAll) #[.slice none 0 0, .agg #[.int .i64 0, .int .i64 0], .string ByteArray.empty] 8 (World.laidAll_os _ _ _)
   (World.shaped_of_ZipB (by kernel_rfl) (by kernel_rfl)) (by kernel_rfl) (by kernel_rfl) (by kernel_rfl) (wit_met os _)) ?_
 intro W base args ds gs before hval0 hW hcnd hsz0 hL0 _
 have HLA := Aside0.mk hL0; clear hL0 hcnd
 have hsz : (DataW.weightsEach Tryz.prog (Tryz.f3.params.toList ++ Rows.distPlacesSpec.plain.varTypes Tryz.prog) (ds ++ gs)).all (· ≤ reachBytes) = true := hsz0
 have hval : ∀ (j : Nat) t v, Tryz.f3.params[j]? = some t → args[j]? = some v → Value.okWide Tryz.prog W .any base t v := hval0
 have hW' := hW
 obtain ⟨p, q, hA0, hV, rfl, hfz, hnd⟩ := hW
 have hA : DataW.TrodAll enc Tryz.prog W 0 (fun _ => true) true Tryz.f3.params.toList args.toList ds p := hA0
 rw [Tryz.params3] at hA hval hsz
 obtain ⟨v0, vs0, d0, ds0, p0, q0, hargs, rfl, rfl, h0, r0⟩ := trodAll_cons hA
 obtain ⟨v1, vs1, d1, ds1, p1, q1, rfl, rfl, rfl, h1, r1⟩ := trodAll_cons r0
 obtain ⟨v2, vs2, d2, ds2, p2, q2, rfl, rfl, rfl, h2, r2⟩ := trodAll_cons r1
 obtain ⟨rfl, rfl, rfl⟩ := trodAll_nil r2
 have hargs2 : args = #[v0, v1, v2] := Array.toList_inj.1 hargs
 subst hargs2
 obtain ⟨rfl, rfl⟩ := trodVars_none hV
 obtain ⟨a0, len0, cap0, rfl⟩ := okWide_slice Tryz.underlying22 (hval 0 22 v0 rfl rfl)
 have k0 := h0
 have lt0 : ∀ x ∈ p0, x.block < W.heap.size := by obtain ⟨m, hm⟩ := k0; exact DataW.trod_lt m _ _ _ hm
 obtain ⟨l, hlen, hcap, hC, hss, hll⟩ := open_ws h0 hsz (j := 0) rfl rfl
 subst hlen
 have k1 := h1
 have lt1 : ∀ x ∈ p1, x.block < W.heap.size := by obtain ⟨m, hm⟩ := k1; exact DataW.trod_lt m _ _ _ hm
 obtain ⟨lo, hi, rfl⟩ := open_limits (hval 1 24 v1 rfl rfl) h1
 obtain ⟨a2, rfl, rfl, rfl, y2⟩ := open_string Tryz.underlying25 (hval 2 25 v2 rfl rfl) h2
 have w2 : a2.size ≤ 140737488351232 := by
  have z := sized_string hsz (j := 2) (t := 25) rfl rfl
  rw [Array.length_toList] at z
  exact z
 clear hA0 hval0 hsz0 hsz
 refine (places_calls a0 cap0 l lo hi a2 W hC hcap hss hll w2 (tabs_of_laid HLA.out)).mono fun e W' ⟨he, bel⟩ => ?_
 subst he
 exact ⟨_, rfl, _, _, _, [], _, [], hW', trodAll_mk1 (shut_bool Tryz.underlying4 _), (trodAll_cons_mk (Below.trod laidOut (by kernel_rfl) (of_decide_eq_true (by kernel_rfl)) k0 bel lt0) (trodAll_cons_mk (Below.trod laidOut (by kernel_rfl) (of_decide_eq_true (by kernel_rfl)) k1 bel lt1) (trodAll_cons_mk (shut_string Tryz.underlying25 y2) trodAll_mk0))), rfl, bel.frame _, fun h => by cases h⟩
end Go.Proofs.YtkdpcgmnkifbbaaGreatDoor
