/-
  Part 8 of 9 of the proof of ExploreModels: what it leans on. No conditions.
-/
import Derived.Test.YtepiknjglmmciaaGreatDoorZExploreModels7
set_option maxRecDepth 100000
set_option maxHeartbeats 4000000
namespace Go.Proofs.YtepiknjglmmciaaGreatDoor
open Go.Fw Go.Proofs Go.RowKit Go.ChangeShapes Go.WideShapes
theorem U7a : Tryz.pinned.checked.prog.mayEnter = true := by kernel_rfl
theorem P6a : (Rows.exploreModelsRow.lifted == Tryz.pinned.checked.prog.liftsFinal) = true := by kernel_rfl
theorem z6a : Go.joinedFacts Tryz.pinned.checked.prog 4 Tryz.f4 Rows.exploreModelsSpec Rows.exploreModelsRow = true := by
 unfold Go.joinedFacts
 rw [U7a, P6a]
 kernel_rfl
theorem y6a : Rows.ExploreModelsSaid :=
 OpenClaim.holds_of_wide 4 Tryz.f4 rfl rfl rfl rfl rfl rfl rfl ⟨rfl, rfl, rfl, rfl, rfl⟩ rfl rfl rfl rfl rfl (by kernel_rfl) Tryz.func4 z6a
  (of_decide_eq_true (by kernel_rfl)) (by unfold Func.isWrapper; (rw [if_neg (by decide +kernel)]; exact ⟨rfl, rfl⟩))
  (fun os started H enc _ => j6a os started H enc)
end Go.Proofs.YtepiknjglmmciaaGreatDoor
