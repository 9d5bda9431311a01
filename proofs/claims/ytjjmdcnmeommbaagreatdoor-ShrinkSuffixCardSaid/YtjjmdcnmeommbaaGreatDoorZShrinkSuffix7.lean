/-
  Part 7 of 8 of the proof of ShrinkSuffix: what it leans on. No conditions.
-/
import Derived.Test.YtjjmdcnmeommbaaGreatDoorZShrinkSuffix6
set_option maxRecDepth 100000
namespace Go.Proofs.YtjjmdcnmeommbaaGreatDoor
open Go.Fw Go.RowKit Go.ChangeShapes Go.WideShapes
theorem A8a : Tryz.pinned.checked.prog.mayEnter = true := by kernel_rfl
theorem J7a : (Rows.shrinkSuffixRow.lifted == Tryz.pinned.checked.prog.liftsFinal) = true := by kernel_rfl
theorem N6a : Go.joinedFacts Tryz.pinned.checked.prog 11 Tryz.f11 Rows.shrinkSuffixSpec Rows.shrinkSuffixRow = true := by
 unfold Go.joinedFacts
 rw [A8a, J7a]
 kernel_rfl
theorem r7a : Rows.ShrinkSuffixSaid :=
 OpenClaim.holds_of_wide 11 Tryz.f11 rfl rfl rfl rfl rfl rfl rfl ⟨rfl, rfl, rfl, rfl, rfl⟩ rfl rfl rfl rfl rfl (by kernel_rfl) Tryz.func11 N6a
  (of_decide_eq_true (by kernel_rfl)) (by unfold Func.isWrapper; (rw [if_neg (by decide +kernel)]; exact ⟨rfl, rfl⟩))
  (fun os started H enc _ => r6a os started H enc)
end Go.Proofs.YtjjmdcnmeommbaaGreatDoor
