/-
  Part 9 of 9 of a proof: MonitorBlame of package relyguardlaw33 returns true for every input, and its arguments read as before.
  Conditions: those of the given row (the listed package variables as the program's text lays them).
-/
import Derived.Test.YtjjmdcnmeommbaaGreatDoorZMonitorBlame8
set_option maxRecDepth 100000
namespace Go.Proofs.YtjjmdcnmeommbaaGreatDoor
open Go.Fw Go.RowKit Go.ChangeShapes Go.WideShapes
theorem monitorBlame_card : Rows.MonitorBlameCardSaid :=
 Claim7.holds_tied_plain_at .later [] [.data] true Rows.monitorBlameCard.stood.harness false
  b7a (fun _ h => by cases h) (by kernel_rfl) (fun _ h => by cases h) monitorBlame_row_tie rfl ⟨rfl, rfl⟩ (by kernel_rfl) rfl
  (fun f fn hf hfn => by
    obtain rfl : f = 4 := Option.some.inj ((show Tryz.prog.funcNamed Rows.monitorBlameRow.func = some 4 by kernel_rfl).symm.trans hf) |>.symm
    obtain rfl : fn = Tryz.f4 := (Option.some.inj (Tryz.func4.symm.trans hfn)).symm
    exact ⟨by kernel_rfl, fun j t ht => by
     rw [Tryz.params4] at ht
     have hm : t ∈ [27, 5, 28] := by simpa using Array.mem_of_getElem? ht
     have hall : ([27, 5, 28].all fun u => !Tryz.prog.wantsStandIn u) = true := by kernel_rfl
     exact (show Tryz.prog.wantsStandIn t = false by simpa using List.all_eq_true.1 hall t hm)⟩)
  (by kernel_rfl)
#print axioms monitorBlame_card
end Go.Proofs.YtjjmdcnmeommbaaGreatDoor
