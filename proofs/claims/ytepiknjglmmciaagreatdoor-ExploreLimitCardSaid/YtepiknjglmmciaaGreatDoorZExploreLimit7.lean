/-
  Part 7 of 8 of the proof of ExploreLimit: what it leans on. No conditions.
-/
import Derived.Test.YtepiknjglmmciaaGreatDoorZExploreLimit6
set_option maxRecDepth 100000
set_option maxHeartbeats 4000000
namespace Go.Proofs.YtepiknjglmmciaaGreatDoor
open Go.Fw Go.Proofs Go.RowKit Go.ChangeShapes Go.WideShapes
theorem w8a : Tryz.pinned.checked.prog.mayEnter = true := by kernel_rfl
theorem w7a : (Rows.exploreLimitRow.lifted == Tryz.pinned.checked.prog.liftsFinal) = true := by kernel_rfl
theorem b7a : Go.joinedFacts Tryz.pinned.checked.prog 5 Tryz.f5 Rows.exploreLimitSpec Rows.exploreLimitRow = true := by
 unfold Go.joinedFacts;rw [w8a, w7a]
 kernel_rfl
theorem Q6a : Rows.ExploreLimitSaid :=
 OpenClaim.holds_of_wide 5 Tryz.f5 rfl rfl rfl rfl rfl rfl rfl ⟨rfl, rfl, rfl, rfl, rfl⟩ rfl rfl rfl rfl rfl (by kernel_rfl) Tryz.func5 b7a
  (of_decide_eq_true (by kernel_rfl)) (by unfold Func.isWrapper; (rw [if_neg (by decide +kernel)]; exact ⟨rfl, rfl⟩))
  (fun os a0 H enc _ => C6a os a0 H enc)
end Go.Proofs.YtepiknjglmmciaaGreatDoor
