/-
  Part 8 of 8 of a proof: InterfereFrames of package relyguardlaw16 returns true for every input, and its arguments read as before.
  Conditions: those of the given row (the listed package variables as the program's text lays them).
-/
import Derived.Test.YtlegngbbcckmnaaGreatDoorZInterfereFrames7
set_option maxRecDepth 100000
set_option maxHeartbeats 4000000
namespace Go.Proofs.YtlegngbbcckmnaaGreatDoor
open Go.Fw Go.Proofs Go.RowKit Go.ChangeShapes Go.WideShapes Tryz
theorem r7a:Rows.interfereFramesRow.wfByText (OpenSpec.ofChange Rows.interfereFramesSpec)=true:=by kernel_rfl
theorem p7a:Tryz.pinned.checked.prog.mainIs=some (Rows.interfereFramesCard.stood.harness.1,Rows.interfereFramesCard.stood.harness.2.toList):=by kernel_rfl
theorem S6a:false=Tryz.pinned.checked.prog.looks []:=by kernel_rfl
theorem u7a:false=Rows.interfereFramesRow.goesBy Tryz.pinned.checked.prog:=by kernel_rfl
theorem w7a:Tryz.pinned.checked.prog.funcNamed Rows.interfereFramesRow.func=some 7:=by kernel_rfl
theorem T6a:([27,5,67].all fun u=>!Tryz.pinned.checked.prog.wantsStandIn u)=true:=by kernel_rfl
theorem interfereFrames_card:Rows.InterfereFramesCardSaid :=
 Claim7.holds_tied_plain_at .later [] [.data,.data,.data,.data,.data] true Rows.interfereFramesCard.stood.harness false
  P5a (fun _ h=>by cases h) r7a (fun _ h=>by cases h) interfereFrames_row_tie Z ⟨Z,Z⟩ p7a Z
  (fun f fn hf a0=>by
    obtain rfl:f=7:=Option.some.inj (w7a.symm.trans hf) |>.symm;obtain rfl:fn=Tryz.f7:=(Option.some.inj (func7.symm.trans a0)).symm;exact⟨S6a,fun j t ht=>by
     rw[Tryz.params7] at ht;have hm:t∈[27,5,67]:=by simpa using Array.mem_of_getElem? ht
     simpa using List.all_eq_true.1 T6a t hm⟩)
  u7a
#print axioms interfereFrames_card
end Go.Proofs.YtlegngbbcckmnaaGreatDoor
