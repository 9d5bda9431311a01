/-
  Part 7 of 9 of the proof of MonitorAssertions: what it leans on. No conditions.
-/
import Derived.Test.YtjjmdcnmeommbaaGreatDoorZMonitorAssertions6
set_option maxRecDepth 100000
namespace Go.Proofs.YtjjmdcnmeommbaaGreatDoor
open Go.Fw Go.RowKit Go.ChangeShapes Go.WideShapes
set_option maxRecDepth 100000 in
set_option maxHeartbeats 2000000 in
theorem monitorAssertions_lifted (os : Os) (started : os.Started) (H : Type) (enc : TypeId × Value → H) :
 ReturnsInHanded {} Tryz.checked os 6 .any (fun w args => (Rows.monitorAssertionsSpec.pre enc Tryz.prog Tryz.f6 [] false w args ∧ laidMetH Tryz.prog tableLaid w) ∧ sizedMet enc Tryz.prog Tryz.f6 (OpenSpec.ofChange Rows.monitorAssertionsSpec) false w args)
  (Rows.monitorAssertionsSpec.post enc Tryz.prog Tryz.f6 false true false false) := by
 refine returnsInHanded_of_change_and (C := Tryz.checked) (X := fun w _ => laidMetH Tryz.prog tableLaid w) (fun _ _ _ hh h => h.of_heap hh) own started (by kernel_rfl) Tryz.func6
  (ChangeSpec.witness_shaped (enc := enc) (C := Tryz.checked) (os := os) (X := fun w _ => laidMetH Tryz.prog tableLaid w) false (World.doorLaid Tryz.prog 400 os)
    #[.agg #[.slice none 0 0, .slice none 0 0, .slice none 0 0, .slice none 0 0], .slice none 0 0] 8 rfl
    (World.shaped_of_RefB (by kernel_rfl) (by kernel_rfl)) (by kernel_rfl) (by kernel_rfl) (by kernel_rfl) (door_met os _)) ?_
 intro W base args ds gs before hval0 hW _ hsz hL _
 have hval : ∀ (j : Nat) t v, Tryz.f6.params[j]? = some t → args[j]? = some v → Value.okWide Tryz.prog W .any base t v := hval0
 have hW' := hW
 obtain ⟨p, _, hA0, hV, rfl, _, _⟩ := hW
 have hA : DataW.TrodAll enc Tryz.prog W 0 (fun _ => true) true Tryz.f6.params.toList args.toList ds p := hA0
 obtain ⟨rfl, rfl⟩ := trodVars_none hV
 rw [Tryz.params6] at hA hval hsz
 obtain ⟨_, _, _, _, _, _, rfl, rfl, rfl, ⟨_, t0⟩, ⟨_, t1⟩⟩ := trodAll_two hA
 obtain ⟨_, rfl, -⟩ := okWide_struct Tryz.underlying27 (hval 0 _ _ rfl rfl)
 obtain ⟨_, _, _, rfl⟩ := okWide_slice Tryz.underlying28 (hval 1 _ _ rfl rfl)
 obtain ⟨c0, h0⟩ := open_program t0 (light_of hsz (j := 0) rfl rfl)
 obtain ⟨c1, h1⟩ := open_choices t1 (light_of hsz (j := 1) rfl rfl)
 refine calls_of_does (monitorAssertions_fn c0 c1 W _ _ h0.1 h0.2 h1 (masks_of_laid hL)) fun v W'' hr => ⟨v, rfl, ?_⟩
 obtain ⟨rfl, hb⟩ := hr
 exact post_true rfl (by kernel_rfl) (by
  rw [Tryz.params6]
  intro t ht
  have hall : ([27, 28].all fun u => Tryz.prog.readableRec u && decide (u < Tryz.prog.types.size)) = true := by kernel_rfl
  simpa using List.all_eq_true.1 hall t ht) hW' rfl rfl rfl hb
end Go.Proofs.YtjjmdcnmeommbaaGreatDoor
