/-
  Part 8 of 8 of a proof: MonitorWeak of package relyguardlaw33 returns true for every input, and its arguments read as before.
  Conditions: those of the given row (the listed package variables as the program's text lays them).
-/
import Derived.Test.YtjjmdcnmeommbaaGreatDoorZMonitorWeak7
set_option maxRecDepth 100000
namespace Go.Proofs.YtjjmdcnmeommbaaGreatDoor
open Go.Fw Go.RowKit Go.ChangeShapes Go.WideShapes
theorem monitorWeak_card : Rows.MonitorWeakCardSaid :=
 Claim7.holds_tied_plain_at .later [] [.data] true Rows.monitorWeakCard.stood.harness false
  Y7a (fun _ h => by cases h) (by kernel_rfl) (fun _ h => by cases h) monitorWeak_row_tie rfl ⟨rfl, rfl⟩ (by kernel_rfl) rfl
  (fun f fn hf hfn => by
    obtain rfl : f = 7 := Option.some.inj ((show Tryz.prog.funcNamed Rows.monitorWeakRow.func = some 7 by kernel_rfl).symm.trans hf) |>.symm
    obtain rfl : fn = Tryz.f7 := (Option.some.inj (Tryz.func7.symm.trans hfn)).symm
    exact ⟨by kernel_rfl, fun j t ht => by
     rw [Tryz.params7] at ht
     have hm : t ∈ [27, 5, 28, 5] := by simpa using Array.mem_of_getElem? ht
     have hall : ([27, 5, 28, 5].all fun u => !Tryz.prog.wantsStandIn u) = true := by kernel_rfl
     exact (show Tryz.prog.wantsStandIn t = false by simpa using List.all_eq_true.1 hall t hm)⟩)
  (by kernel_rfl)
#print axioms monitorWeak_card
end Go.Proofs.YtjjmdcnmeommbaaGreatDoor
