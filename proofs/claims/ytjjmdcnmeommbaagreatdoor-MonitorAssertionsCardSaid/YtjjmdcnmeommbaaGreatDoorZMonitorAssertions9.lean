/-
  Part 9 of 9 of a proof: MonitorAssertions of package relyguardlaw33 returns true for every input, and its arguments read as before.
  Conditions: those of the given row (the listed package variables as the program's text lays them).
-/
import Derived.Test.YtjjmdcnmeommbaaGreatDoorZMonitorAssertions8
set_option maxRecDepth 100000
namespace Go.Proofs.YtjjmdcnmeommbaaGreatDoor
open Go.Fw Go.RowKit Go.ChangeShapes Go.WideShapes
theorem monitorAssertions_card : Rows.MonitorAssertionsCardSaid :=
 Claim7.holds_tied_plain_at .later [] [.data] true Rows.monitorAssertionsCard.stood.harness false
  monitorAssertions_holds (fun _ h => by cases h) (by kernel_rfl) (fun _ h => by cases h) monitorAssertions_row_tie rfl ⟨rfl, rfl⟩ (by kernel_rfl) rfl
  (fun f fn hf hfn => by
    obtain rfl : f = 6 := Option.some.inj ((show Tryz.prog.funcNamed Rows.monitorAssertionsRow.func = some 6 by kernel_rfl).symm.trans hf) |>.symm
    obtain rfl : fn = Tryz.f6 := (Option.some.inj (Tryz.func6.symm.trans hfn)).symm
    exact ⟨by kernel_rfl, fun j t ht => by
     rw [Tryz.params6] at ht
     have hm : t ∈ [27, 28] := by simpa using Array.mem_of_getElem? ht
     have hall : ([27, 28].all fun u => !Tryz.prog.wantsStandIn u) = true := by kernel_rfl
     exact (show Tryz.prog.wantsStandIn t = false by simpa using List.all_eq_true.1 hall t hm)⟩)
  (by kernel_rfl)
#print axioms monitorAssertions_card
end Go.Proofs.YtjjmdcnmeommbaaGreatDoor
