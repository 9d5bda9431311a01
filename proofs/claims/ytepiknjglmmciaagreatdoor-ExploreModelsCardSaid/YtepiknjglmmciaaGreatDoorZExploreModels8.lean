/-
  Part 8 of 8 of a proof: ExploreModels of package relyguardlaw14 returns true for every input, and its arguments read as before.
  Conditions: those of the given row (the listed package variables as the program's text lays them).
-/
import Derived.Test.YtepiknjglmmciaaGreatDoorZExploreModels7
set_option maxRecDepth 100000
set_option maxHeartbeats 4000000
namespace Go.Proofs.YtepiknjglmmciaaGreatDoor
open Go.Fw Go.Proofs Go.RowKit Go.ChangeShapes Go.WideShapes
theorem exploreModels_card : Rows.ExploreModelsCardSaid :=
 Claim7.holds_tied_plain_at .later [] [.data] true Rows.exploreModelsCard.stood.harness false
  L6a (fun _ h => by cases h) (by kernel_rfl) (fun _ h => by cases h) exploreModels_row_tie rfl ⟨rfl, rfl⟩ (by kernel_rfl) rfl
  (fun f fn hf b0 => by
    obtain rfl : f = 4 := Option.some.inj ((show Tryz.prog.funcNamed Rows.exploreModelsRow.func = some 4 by kernel_rfl).symm.trans hf) |>.symm;obtain rfl : fn = Tryz.f4 := (Option.some.inj (Tryz.func4.symm.trans b0)).symm;exact ⟨by kernel_rfl, fun j t ht => by
     rw [Tryz.params4] at ht;have hm : t ∈ [27] := by simpa using Array.mem_of_getElem? ht
     have a0 : ([27].all fun u => !Tryz.prog.wantsStandIn u) = true := by kernel_rfl
     exact (show Tryz.prog.wantsStandIn t = false by simpa using List.all_eq_true.1 a0 t hm)⟩)
  (by kernel_rfl)
#print axioms exploreModels_card
end Go.Proofs.YtepiknjglmmciaaGreatDoor
