/-
  Part 8 of 9 of the proof of MonitorBlame: what it leans on. No conditions.
-/
import Derived.Test.YtjjmdcnmeommbaaGreatDoorZMonitorBlame7
set_option maxRecDepth 100000
namespace Go.Proofs.YtjjmdcnmeommbaaGreatDoor
open Go.Fw Go.RowKit Go.ChangeShapes Go.WideShapes
theorem b7a : Rows.MonitorBlameSaid :=
 OpenClaim.holds_of_wide 4 Tryz.f4 rfl rfl rfl rfl rfl rfl rfl ⟨rfl, rfl, rfl, rfl, rfl⟩ rfl rfl rfl rfl rfl (by kernel_rfl) Tryz.func4 (by kernel_rfl)
  (of_decide_eq_true (by kernel_rfl)) (by unfold Func.isWrapper; (rw [if_neg (by decide +kernel)]; exact ⟨rfl, rfl⟩))
  (fun os started H enc _ => x6a os started H enc)
end Go.Proofs.YtjjmdcnmeommbaaGreatDoor
