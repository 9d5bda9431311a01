/-
  Part 7 of 9 of the proof of MonitorBlame: what it leans on. No conditions.
-/
import Derived.Test.YtjjmdcnmeommbaaGreatDoorZMonitorBlame6
set_option maxRecDepth 100000
namespace Go.Proofs.YtjjmdcnmeommbaaGreatDoor
open Go.Fw Go.RowKit Go.ChangeShapes Go.WideShapes
set_option maxRecDepth 100000 in
set_option maxHeartbeats 2000000 in
theorem x6a (os : Os) (started : os.Started) (H : Type) (enc : TypeId × Value → H) :
 ReturnsInHanded {} Tryz.checked os 4 .any (fun w args => (Rows.monitorBlameSpec.pre enc Tryz.prog Tryz.f4 [] false w args ∧ laidMetH Tryz.prog R6a w) ∧ sizedMet enc Tryz.prog Tryz.f4 (OpenSpec.ofChange Rows.monitorBlameSpec) false w args)
  (Rows.monitorBlameSpec.post enc Tryz.prog Tryz.f4 false true false false) := by
 refine returnsInHanded_of_change_and (C := Tryz.checked) (X := fun w _ => laidMetH Tryz.prog R6a w) (fun _ _ _ hh h => h.of_heap hh) own started (by kernel_rfl) Tryz.func4
  (ChangeSpec.witness_shaped (enc := enc) (C := Tryz.checked) (os := os) (X := fun w _ => laidMetH Tryz.prog R6a w) false (World.doorLaid Tryz.prog 400 os)
    #[.agg #[.slice none 0 0, .slice none 0 0, .slice none 0 0, .slice none 0 0], .int .u8 0, .slice none 0 0] 8 rfl
    (World.shaped_of_RefB (by kernel_rfl) (by kernel_rfl)) (by kernel_rfl) (by kernel_rfl) (by kernel_rfl) (Y0c os _)) ?_
 intro W base args ds gs before hval0 hW _ hsz hL _
 have hval : ∀ (j : Nat) t v, Tryz.f4.params[j]? = some t → args[j]? = some v → Value.okWide Tryz.prog W .any base t v := hval0
 have hW' := hW
 obtain ⟨p, _, hA0, hV, rfl, _, _⟩ := hW
 have hA : DataW.TrodAll enc Tryz.prog W 0 (fun _ => true) true Tryz.f4.params.toList args.toList ds p := hA0
 obtain ⟨rfl, rfl⟩ := trodVars_none hV
 rw [Tryz.params4] at hA hval hsz
 obtain ⟨_, _, _, _, _, _, _, _, _, rfl, rfl, rfl, ⟨_, t0⟩, ⟨_, t1⟩, ⟨_, t2⟩⟩ := trodAll_three hA
 obtain ⟨_, rfl, -⟩ := okWide_struct Tryz.underlying27 (hval 0 _ _ rfl rfl)
 obtain ⟨c1, rfl⟩ := okWide_int Tryz.underlying5 (hval 1 _ _ rfl rfl)
 obtain ⟨_, _, _, rfl⟩ := okWide_slice Tryz.underlying28 (hval 2 _ _ rfl rfl)
 obtain ⟨c0, h0⟩ := t3b t0 (y5b hsz (j := 0) rfl rfl)
 obtain ⟨_, e1, -, w1⟩ := DataW.trod_int Tryz.underlying5 t1
 cases e1
 have h1 := i8c w1
 obtain ⟨c2, h2⟩ := I3b t2 (y5b hsz (j := 2) rfl rfl)
 refine A1b (T8a c0 c1 h1 c2 W _ _ h0.1 h0.2 h2 (P1b hL)) fun v W'' hr => ⟨v, rfl, ?_⟩
 obtain ⟨rfl, hb⟩ := hr
 exact A7b rfl (by kernel_rfl) (by
  rw [Tryz.params4]
  intro t ht
  have hall : ([27, 5, 28].all fun u => Tryz.prog.readableRec u && decide (u < Tryz.prog.types.size)) = true := by kernel_rfl
  simpa using List.all_eq_true.1 hall t ht) hW' rfl rfl rfl hb
end Go.Proofs.YtjjmdcnmeommbaaGreatDoor
