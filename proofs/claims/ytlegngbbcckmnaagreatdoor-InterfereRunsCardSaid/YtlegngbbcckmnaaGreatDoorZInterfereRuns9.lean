/-
  Part 9 of 9 of a proof: InterfereRuns of package relyguardlaw16 returns true for every input, and its arguments read as before.
  Conditions: those of the given row (the listed package variables as the program's text lays them).
-/
import Derived.Test.YtlegngbbcckmnaaGreatDoorZInterfereRuns8
set_option maxRecDepth 100000
set_option maxHeartbeats 4000000
namespace Go.Proofs.YtlegngbbcckmnaaGreatDoor
open Go.Fw Go.Proofs Go.RowKit Go.ChangeShapes Go.WideShapes Tryz
theorem C9a:Rows.interfereRunsRow.wfByText (OpenSpec.ofChange Rows.interfereRunsSpec)=true:=by kernel_rfl
theorem K9a:Tryz.pinned.checked.prog.mainIs=some (Rows.interfereRunsCard.stood.harness.1,Rows.interfereRunsCard.stood.harness.2.toList):=by kernel_rfl
theorem F9a:false=Tryz.pinned.checked.prog.looks []:=by kernel_rfl
theorem M9a:false=Rows.interfereRunsRow.goesBy Tryz.pinned.checked.prog:=by kernel_rfl
theorem x9a:Tryz.pinned.checked.prog.funcNamed Rows.interfereRunsRow.func=some 5:=by kernel_rfl
theorem w9a:([27,47,47,5,67].all fun u=>!Tryz.pinned.checked.prog.wantsStandIn u)=true:=by kernel_rfl
theorem interfereRuns_card:Rows.InterfereRunsCardSaid :=
 Claim7.holds_tied_plain_at .later [] [.data,.data,.data,.data,.data] true Rows.interfereRunsCard.stood.harness false
  s7a (fun _ h=>by cases h) C9a (fun _ h=>by cases h) interfereRuns_row_tie Z ⟨Z,Z⟩ K9a Z
  (fun f fn hf a0=>by
    obtain rfl:f=5:=Option.some.inj (x9a.symm.trans hf) |>.symm;obtain rfl:fn=Tryz.f5:=(Option.some.inj (func5.symm.trans a0)).symm;exact⟨F9a,fun j t ht=>by
     rw[Tryz.params5] at ht;have hm:t∈[27,47,47,5,67]:=by simpa using Array.mem_of_getElem? ht
     simpa using List.all_eq_true.1 w9a t hm⟩)
  M9a
#print axioms interfereRuns_card
end Go.Proofs.YtlegngbbcckmnaaGreatDoor
