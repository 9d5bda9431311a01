/-
  Part 6 of 8 of the proof of MonitorWeak: what it leans on. No conditions.
-/
import Derived.Test.YtjjmdcnmeommbaaGreatDoorZMonitorWeak5
set_option maxRecDepth 100000
namespace Go.Proofs.YtjjmdcnmeommbaaGreatDoor
open Go.Fw Go.RowKit Go.ChangeShapes Go.WideShapes
set_option maxRecDepth 100000 in
set_option maxHeartbeats 2000000 in
theorem X6a (os : Os) (started : os.Started) (H : Type) (enc : TypeId × Value → H) :
 ReturnsInHanded {} Tryz.checked os 7 .any (fun w args => (Rows.monitorWeakSpec.pre enc Tryz.prog Tryz.f7 [] false w args ∧ laidMetH Tryz.prog c7a w) ∧ sizedMet enc Tryz.prog Tryz.f7 (OpenSpec.ofChange Rows.monitorWeakSpec) false w args)
  (Rows.monitorWeakSpec.post enc Tryz.prog Tryz.f7 false true false false) := by
 refine returnsInHanded_of_change_and (C := Tryz.checked) (X := fun w _ => laidMetH Tryz.prog c7a w) (fun _ _ _ hh h => h.of_heap hh) own started (by kernel_rfl) Tryz.func7
  (ChangeSpec.witness_shaped (enc := enc) (C := Tryz.checked) (os := os) (X := fun w _ => laidMetH Tryz.prog c7a w) false (World.doorLaid Tryz.prog 400 os)
    #[.agg #[.slice none 0 0, .slice none 0 0, .slice none 0 0, .slice none 0 0], .int .u8 0, .slice none 0 0, .int .u8 0] 8 rfl
    (World.shaped_of_RefB (by kernel_rfl) (by kernel_rfl)) (by kernel_rfl) (by kernel_rfl) (by kernel_rfl) (t1c os _)) ?_
 intro W base args ds gs before hval0 hW _ hsz hL _
 have hval : ∀ (j : Nat) t v, Tryz.f7.params[j]? = some t → args[j]? = some v → Value.okWide Tryz.prog W .any base t v := hval0
 have hW' := hW
 obtain ⟨p, _, hA0, hV, rfl, _, _⟩ := hW
 have hA : DataW.TrodAll enc Tryz.prog W 0 (fun _ => true) true Tryz.f7.params.toList args.toList ds p := hA0
 obtain ⟨rfl, rfl⟩ := trodVars_none hV
 rw [Tryz.params7] at hA hval hsz
 obtain ⟨_, _, _, _, _, _, _, _, _, _, _, _, rfl, rfl, rfl, ⟨_, t0⟩, ⟨_, t1⟩, ⟨_, t2⟩, ⟨_, t3⟩⟩ := trodAll_four hA
 obtain ⟨_, rfl, -⟩ := okWide_struct Tryz.underlying27 (hval 0 _ _ rfl rfl)
 obtain ⟨c1, rfl⟩ := okWide_int Tryz.underlying5 (hval 1 _ _ rfl rfl)
 obtain ⟨_, _, _, rfl⟩ := okWide_slice Tryz.underlying28 (hval 2 _ _ rfl rfl)
 obtain ⟨c3, rfl⟩ := okWide_int Tryz.underlying5 (hval 3 _ _ rfl rfl)
 obtain ⟨c0, h0⟩ := j3b t0 (p6b hsz (j := 0) rfl rfl)
 obtain ⟨_, e1, -, w1⟩ := DataW.trod_int Tryz.underlying5 t1
 cases e1
 have h1 := u8c w1
 obtain ⟨c2, h2⟩ := n3b t2 (p6b hsz (j := 2) rfl rfl)
 obtain ⟨_, e3, -, w3⟩ := DataW.trod_int Tryz.underlying5 t3
 cases e3
 have h3 := u8c w3
 refine r2b (v0b c0 c1 h1 c2 c3 h3 W _ _ h0.1 h0.2 h2 (D2b hL)) fun v W'' hr => ⟨v, rfl, ?_⟩
 obtain ⟨rfl, hb⟩ := hr
 exact d8b rfl (by kernel_rfl) (by
  rw [Tryz.params7]
  intro t ht
  have hall : ([27, 5, 28, 5].all fun u => Tryz.prog.readableRec u && decide (u < Tryz.prog.types.size)) = true := by kernel_rfl
  simpa using List.all_eq_true.1 hall t ht) hW' rfl rfl rfl hb
end Go.Proofs.YtjjmdcnmeommbaaGreatDoor
