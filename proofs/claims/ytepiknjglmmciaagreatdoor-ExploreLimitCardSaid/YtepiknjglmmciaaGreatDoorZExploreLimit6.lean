/-
  Part 6 of 8 of the proof of ExploreLimit: what it leans on. No conditions.
-/
import Derived.Test.YtepiknjglmmciaaGreatDoorZExploreLimit5
set_option maxRecDepth 100000
set_option maxHeartbeats 4000000
namespace Go.Proofs.YtepiknjglmmciaaGreatDoor
open Go.Fw Go.Proofs Go.RowKit Go.ChangeShapes Go.WideShapes
theorem C6a (os : Os) (b0 : os.Started) (H : Type) (enc : TypeId × Value → H) :
 ReturnsInHanded {} Tryz.checked os 5 .any (fun w args => (Rows.exploreLimitSpec.pre enc Tryz.prog Tryz.f5 [] false w args ∧ laidMetH Tryz.prog I6a w) ∧ sizedMet enc Tryz.prog Tryz.f5 (OpenSpec.ofChange Rows.exploreLimitSpec) false w args)
  (Rows.exploreLimitSpec.post enc Tryz.prog Tryz.f5 false true false false) := by
 refine returnsInHanded_of_change_and (C := Tryz.checked) (X := fun w _ => laidMetH Tryz.prog I6a w) (fun _ _ _ hh h => h.of_heap hh) own b0 (by kernel_rfl) Tryz.func5
  (ChangeSpec.witness_shaped (enc := enc) (C := Tryz.checked) (os := os) (X := fun w _ => laidMetH Tryz.prog I6a w) false (World.doorLaid Tryz.prog 400 os)
    #[.agg #[.slice none 0 0, .slice none 0 0, .slice none 0 0, .slice none 0 0], .int .u8 0, .agg #[.int .i64 0, .int .i64 0, .int .i64 0, .int .i64 0, .int .i64 0, .slice none 0 0], .int .u16 0, .int .u16 0] 8 rfl
    (World.shaped_of_RefB (by kernel_rfl) (by kernel_rfl)) (by kernel_rfl) (by kernel_rfl) (by kernel_rfl) (z0c os _)) ?_
 intro W base args ds gs e0 d0 hW _ g0 hL _;have a0 : ∀ (j : Nat) t v, Tryz.f5.params[j]? = some t → args[j]? = some v → Value.okWide Tryz.prog W .any base t v := d0;have j0 := hW;obtain ⟨p, _, i0, hV, rfl, _, _⟩ := hW;have hA : DataW.TrodAll enc Tryz.prog W 0 (fun _ => true) true Tryz.f5.params.toList args.toList ds p := i0;obtain ⟨rfl, rfl⟩ := trodVars_none hV;rw [Tryz.params5] at hA a0 g0;obtain ⟨_, _, _, _, _, _, _, _, _, _, _, _, _, _, _, rfl, rfl, rfl, ⟨_, t0⟩, ⟨_, t1⟩, ⟨_, t2⟩, ⟨_, t3⟩, ⟨_, t4⟩⟩ := v8b hA;obtain ⟨_, rfl, -⟩ := okWide_struct Tryz.underlying27 (a0 0 _ _ rfl rfl);obtain ⟨c1, rfl⟩ := okWide_int Tryz.underlying5 (a0 1 _ _ rfl rfl);obtain ⟨_, rfl, -⟩ := okWide_struct Tryz.underlying55 (a0 2 _ _ rfl rfl);obtain ⟨c3, rfl⟩ := okWide_int Tryz.underlying56 (a0 3 _ _ rfl rfl);obtain ⟨c4, rfl⟩ := okWide_int Tryz.underlying56 (a0 4 _ _ rfl rfl);obtain ⟨c0, h0⟩ := D2b t0 (r5b g0 (j := 0) rfl rfl);obtain ⟨_, e1, -, w1⟩ := DataW.trod_int Tryz.underlying5 t1;cases e1;have h1 := I8c w1;obtain ⟨c2, h2⟩ := z9b t2 (r5b g0 (j := 2) rfl rfl);obtain ⟨_, e3, -, w3⟩ := DataW.trod_int Tryz.underlying56 t3;cases e3;have h3 := M2c w3;obtain ⟨_, e4, -, w4⟩ := DataW.trod_int Tryz.underlying56 t4;cases e4;have h4 := M2c w4;refine Z0b (Z8a c0 c1 h1 c2 c3 c4 h3 h4 W _ _ h0.1 h0.2 h2 (M0b hL)) fun v n0 hr => ⟨v, rfl, ?_⟩
 obtain ⟨rfl, hb⟩ := hr;exact W7b rfl (by kernel_rfl) (by
  rw [Tryz.params5];intro t ht;have f0 : ([27, 5, 55, 56, 56].all fun u => Tryz.prog.readableRec u && decide (u < Tryz.prog.types.size)) = true := by kernel_rfl
  simpa using List.all_eq_true.1 f0 t ht) j0 rfl rfl rfl hb
end Go.Proofs.YtepiknjglmmciaaGreatDoor
