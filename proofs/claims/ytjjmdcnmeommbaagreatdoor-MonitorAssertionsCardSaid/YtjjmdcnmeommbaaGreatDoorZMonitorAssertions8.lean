/-
  Part 8 of 9 of the proof of MonitorAssertions: what it leans on. No conditions.
-/
import Derived.Test.YtjjmdcnmeommbaaGreatDoorZMonitorAssertions7
set_option maxRecDepth 100000
namespace Go.Proofs.YtjjmdcnmeommbaaGreatDoor
open Go.Fw Go.RowKit Go.ChangeShapes Go.WideShapes
theorem monitorAssertions_holds : Rows.MonitorAssertionsSaid :=
 OpenClaim.holds_of_wide 6 Tryz.f6 rfl rfl rfl rfl rfl rfl rfl ⟨rfl, rfl, rfl, rfl, rfl⟩ rfl rfl rfl rfl rfl (by kernel_rfl) Tryz.func6 (by kernel_rfl)
  (of_decide_eq_true (by kernel_rfl)) (by unfold Func.isWrapper; (rw [if_neg (by decide +kernel)]; exact ⟨rfl, rfl⟩))
  (fun os started H enc _ => monitorAssertions_lifted os started H enc)
end Go.Proofs.YtjjmdcnmeommbaaGreatDoor
