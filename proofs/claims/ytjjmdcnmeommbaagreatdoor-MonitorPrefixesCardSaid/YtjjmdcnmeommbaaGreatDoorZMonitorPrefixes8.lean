/-
  Part 8 of 9 of the proof of MonitorPrefixes: what it leans on. No conditions.
-/
import Derived.Test.YtjjmdcnmeommbaaGreatDoorZMonitorPrefixes7
set_option maxRecDepth 100000
namespace Go.Proofs.YtjjmdcnmeommbaaGreatDoor
open Go.Fw Go.RowKit Go.ChangeShapes Go.WideShapes
theorem monitorPrefixes_holds : Rows.MonitorPrefixesSaid :=
 OpenClaim.holds_of_wide 3 Tryz.f3 rfl rfl rfl rfl rfl rfl rfl ⟨rfl, rfl, rfl, rfl, rfl⟩ rfl rfl rfl rfl rfl (by kernel_rfl) Tryz.func3 (by kernel_rfl)
  (of_decide_eq_true (by kernel_rfl)) (by unfold Func.isWrapper; (rw [if_neg (by decide +kernel)]; exact ⟨rfl, rfl⟩))
  (fun os started H enc _ => monitorPrefixes_lifted os started H enc)
end Go.Proofs.YtjjmdcnmeommbaaGreatDoor
