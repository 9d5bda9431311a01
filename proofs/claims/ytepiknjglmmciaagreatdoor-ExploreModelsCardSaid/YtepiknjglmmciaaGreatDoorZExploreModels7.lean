/-
  Part 7 of 8 of the proof of ExploreModels: what it leans on. No conditions.
-/
import Derived.Test.YtepiknjglmmciaaGreatDoorZExploreModels6
set_option maxRecDepth 100000
set_option maxHeartbeats 4000000
namespace Go.Proofs.YtepiknjglmmciaaGreatDoor
open Go.Fw Go.Proofs Go.RowKit Go.ChangeShapes Go.WideShapes
theorem H7a : Tryz.pinned.checked.prog.mayEnter = true := by kernel_rfl
theorem i7a : (Rows.exploreModelsRow.lifted == Tryz.pinned.checked.prog.liftsFinal) = true := by kernel_rfl
theorem y6a : Go.joinedFacts Tryz.pinned.checked.prog 4 Tryz.f4 Rows.exploreModelsSpec Rows.exploreModelsRow = true := by
 unfold Go.joinedFacts;rw [H7a, i7a]
 kernel_rfl
theorem L6a : Rows.ExploreModelsSaid :=
 OpenClaim.holds_of_wide 4 Tryz.f4 rfl rfl rfl rfl rfl rfl rfl ⟨rfl, rfl, rfl, rfl, rfl⟩ rfl rfl rfl rfl rfl (by kernel_rfl) Tryz.func4 y6a
  (of_decide_eq_true (by kernel_rfl)) (by unfold Func.isWrapper; (rw [if_neg (by decide +kernel)]; exact ⟨rfl, rfl⟩))
  (fun os a0 H enc _ => k6a os a0 H enc)
end Go.Proofs.YtepiknjglmmciaaGreatDoor
