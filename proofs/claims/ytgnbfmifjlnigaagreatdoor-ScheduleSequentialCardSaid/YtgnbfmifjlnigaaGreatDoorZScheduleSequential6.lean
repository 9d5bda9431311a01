/-
  Part 6 of 6 of a proof: ScheduleSequential of package relyguardlaw13 returns true for every input, and its arguments read as before.
  Conditions: those of the given row (the listed package variables as the program's text lays them).
-/
import Derived.Test.YtgnbfmifjlnigaaGreatDoorZScheduleSequential5
set_option maxRecDepth 100000
namespace Go.Proofs.YtgnbfmifjlnigaaGreatDoor
open Go.Fw Go.RowKit Go.ChangeShapes Go.WideShapes
set_option maxRecDepth 100000 in
set_option maxHeartbeats 2000000 in
theorem scheduleSequential_lifted (os : Os) (started : os.Started) (H : Type) (enc : TypeId × Value → H) :
 ReturnsInHanded {} Tryz.checked os 5 .any (fun w args => (Rows.scheduleSequentialSpec.pre enc Tryz.prog Tryz.f5 [] false w args ∧ laidMetH Tryz.prog tableLaid w) ∧ sizedMet enc Tryz.prog Tryz.f5 (OpenSpec.ofChange Rows.scheduleSequentialSpec) false w args)
  (Rows.scheduleSequentialSpec.post enc Tryz.prog Tryz.f5 false true false false) := by
 refine returnsInHanded_of_change_and (C := Tryz.checked) (X := fun w _ => laidMetH Tryz.prog tableLaid w) (fun _ _ _ hh h => h.of_heap hh) own started (by kernel_rfl) Tryz.func5
  (ChangeSpec.witness_shaped (enc := enc) (C := Tryz.checked) (os := os) (X := fun w _ => laidMetH Tryz.prog tableLaid w) false (World.doorLaid Tryz.prog 400 os)
    #[.agg #[.slice none 0 0, .slice none 0 0, .slice none 0 0, .slice none 0 0], .slice none 0 0] 8 rfl
    (World.shaped_of_RefB (by kernel_rfl) (by kernel_rfl)) (by kernel_rfl) (by kernel_rfl) (by kernel_rfl) (door_met os _)) ?_
 intro W base args ds gs before hval0 hW _ hsz hL _
 have hval : ∀ (j : Nat) t v, Tryz.f5.params[j]? = some t → args[j]? = some v → Value.okWide Tryz.prog W .any base t v := hval0
 have hW' := hW
 obtain ⟨p, _, hA0, hV, rfl, _, _⟩ := hW
 have hA : DataW.TrodAll enc Tryz.prog W 0 (fun _ => true) true Tryz.f5.params.toList args.toList ds p := hA0
 obtain ⟨rfl, rfl⟩ := trodVars_none hV
 rw [Tryz.params5] at hA hval hsz
 obtain ⟨_, _, _, _, _, _, rfl, rfl, rfl, ⟨_, t0⟩, ⟨_, t1⟩⟩ := trodAll_two hA
 obtain ⟨_, rfl, -⟩ := okWide_struct Tryz.underlying36 (hval 0 _ _ rfl rfl)
 obtain ⟨_, _, _, rfl⟩ := okWide_slice Tryz.underlying22 (hval 1 _ _ rfl rfl)
 obtain ⟨c0, h0⟩ := open_program t0 (light_of hsz (j := 0) rfl rfl)
 obtain ⟨c1, h1⟩ := open_choices t1 (light_of hsz (j := 1) rfl rfl)
 refine calls_of_does (scheduleSequential_fn c0 c1 W _ _ h0.1 h0.2 h1 (masks_of_laid hL)) fun v W'' hr => ⟨v, rfl, ?_⟩
 obtain ⟨rfl, hb⟩ := hr
 exact post_true rfl (by kernel_rfl) (by
  rw [Tryz.params5]
  intro t ht
  have hall : ([36, 22].all fun u => Tryz.prog.readableRec u && decide (u < Tryz.prog.types.size)) = true := by kernel_rfl
  simpa using List.all_eq_true.1 hall t ht) hW' rfl rfl rfl hb
theorem scheduleSequential_holds : Rows.ScheduleSequentialSaid :=
 OpenClaim.holds_of_wide 5 Tryz.f5 rfl rfl rfl rfl rfl rfl rfl ⟨rfl, rfl, rfl, rfl, rfl⟩ rfl rfl rfl rfl rfl (by kernel_rfl) Tryz.func5 (by kernel_rfl)
  (of_decide_eq_true (by kernel_rfl)) (by unfold Func.isWrapper; (rw [if_neg (by decide +kernel)]; exact ⟨rfl, rfl⟩))
  (fun os started H enc _ => scheduleSequential_lifted os started H enc)
theorem scheduleSequential_card : Rows.ScheduleSequentialCardSaid :=
 Claim7.holds_tied_plain_at .later [] [.data, .data, .data, .data] true Rows.scheduleSequentialCard.stood.harness false
  scheduleSequential_holds (fun _ h => by cases h) (by kernel_rfl) (fun _ h => by cases h) scheduleSequential_row_tie rfl ⟨rfl, rfl⟩ (by kernel_rfl) rfl
  (fun f fn hf hfn => by
    obtain rfl : f = 5 := Option.some.inj ((show Tryz.prog.funcNamed Rows.scheduleSequentialRow.func = some 5 by kernel_rfl).symm.trans hf) |>.symm
    obtain rfl : fn = Tryz.f5 := (Option.some.inj (Tryz.func5.symm.trans hfn)).symm
    exact ⟨by kernel_rfl, fun j t ht => by
     rw [Tryz.params5] at ht
     have hm : t ∈ [36, 22] := by simpa using Array.mem_of_getElem? ht
     have hall : ([36, 22].all fun u => !Tryz.prog.wantsStandIn u) = true := by kernel_rfl
     exact (show Tryz.prog.wantsStandIn t = false by simpa using List.all_eq_true.1 hall t hm)⟩)
  (by kernel_rfl)
#print axioms scheduleSequential_card
end Go.Proofs.YtgnbfmifjlnigaaGreatDoor
