/-
  Part 6 of 8 of the proof of ExploreModels: what it leans on. No conditions.
-/
import Derived.Test.YtepiknjglmmciaaGreatDoorZExploreModels5
set_option maxRecDepth 100000
set_option maxHeartbeats 4000000
namespace Go.Proofs.YtepiknjglmmciaaGreatDoor
open Go.Fw Go.Proofs Go.RowKit Go.ChangeShapes Go.WideShapes
theorem k6a (os : Os) (a0 : os.Started) (H : Type) (enc : TypeId × Value → H) :
 ReturnsInHanded {} Tryz.checked os 4 .any (fun w args => (Rows.exploreModelsSpec.pre enc Tryz.prog Tryz.f4 [] false w args ∧ laidMetH Tryz.prog v7a w) ∧ sizedMet enc Tryz.prog Tryz.f4 (OpenSpec.ofChange Rows.exploreModelsSpec) false w args)
  (Rows.exploreModelsSpec.post enc Tryz.prog Tryz.f4 false true false false) := by
 refine returnsInHanded_of_change_and (C := Tryz.checked) (X := fun w _ => laidMetH Tryz.prog v7a w) (fun _ _ _ hh h => h.of_heap hh) own a0 (by kernel_rfl) Tryz.func4
  (ChangeSpec.witness_shaped (enc := enc) (C := Tryz.checked) (os := os) (X := fun w _ => laidMetH Tryz.prog v7a w) false (World.doorLaid Tryz.prog 400 os)
    #[.agg #[.slice none 0 0, .slice none 0 0, .slice none 0 0, .slice none 0 0]] 8 rfl
    (World.shaped_of_RefB (by kernel_rfl) (by kernel_rfl)) (by kernel_rfl) (by kernel_rfl) (by kernel_rfl) (S0c os _)) ?_
 intro W base args ds gs e0 d0 hW _ g0 hL _;have b0 : ∀ (j : Nat) t v, Tryz.f4.params[j]? = some t → args[j]? = some v → Value.okWide Tryz.prog W .any base t v := d0;have j0 := hW;obtain ⟨p, _, i0, hV, rfl, _, _⟩ := hW;have hA : DataW.TrodAll enc Tryz.prog W 0 (fun _ => true) true Tryz.f4.params.toList args.toList ds p := i0;obtain ⟨rfl, rfl⟩ := trodVars_none hV;rw [Tryz.params4] at hA b0 g0;obtain ⟨_, _, rfl, rfl, ⟨_, t0⟩⟩ := trodAll_one hA;obtain ⟨_, rfl, -⟩ := okWide_struct Tryz.underlying27 (b0 0 _ _ rfl rfl);obtain ⟨c0, h0⟩ := o2b t0 (S1c g0 (j := 0) rfl rfl);refine P1b (G8a c0 W _ h0.1 h0.2 (H1b hL)) fun v n0 hr => ⟨v, rfl, ?_⟩
 obtain ⟨rfl, hb⟩ := hr;exact I7b rfl (by kernel_rfl) (by
  rw [Tryz.params4];intro t ht;have f0 : ([27].all fun u => Tryz.prog.readableRec u && decide (u < Tryz.prog.types.size)) = true := by kernel_rfl
  simpa using List.all_eq_true.1 f0 t ht) j0 rfl rfl rfl hb
end Go.Proofs.YtepiknjglmmciaaGreatDoor
