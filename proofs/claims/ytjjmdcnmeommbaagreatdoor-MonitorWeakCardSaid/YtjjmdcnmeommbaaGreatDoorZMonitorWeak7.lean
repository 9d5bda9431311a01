/-
  Part 7 of 8 of the proof of MonitorWeak: what it leans on. No conditions.
-/
import Derived.Test.YtjjmdcnmeommbaaGreatDoorZMonitorWeak6
set_option maxRecDepth 100000
namespace Go.Proofs.YtjjmdcnmeommbaaGreatDoor
open Go.Fw Go.RowKit Go.ChangeShapes Go.WideShapes
theorem o9a : Tryz.pinned.checked.prog.mayEnter = true := by kernel_rfl
theorem I8a : (Rows.monitorWeakRow.lifted == Tryz.pinned.checked.prog.liftsFinal) = true := by kernel_rfl
theorem J7a : Go.joinedFacts Tryz.pinned.checked.prog 7 Tryz.f7 Rows.monitorWeakSpec Rows.monitorWeakRow = true := by
 unfold Go.joinedFacts
 rw [o9a, I8a]
 kernel_rfl
theorem Y7a : Rows.MonitorWeakSaid :=
 OpenClaim.holds_of_wide 7 Tryz.f7 rfl rfl rfl rfl rfl rfl rfl ⟨rfl, rfl, rfl, rfl, rfl⟩ rfl rfl rfl rfl rfl (by kernel_rfl) Tryz.func7 J7a
  (of_decide_eq_true (by kernel_rfl)) (by unfold Func.isWrapper; (rw [if_neg (by decide +kernel)]; exact ⟨rfl, rfl⟩))
  (fun os started H enc _ => X6a os started H enc)
end Go.Proofs.YtjjmdcnmeommbaaGreatDoor
