/-
  Part 8 of 8 of a proof: InterfereOrder of package relyguardlaw16 returns true for every input, and its arguments read as before.
  Conditions: those of the given row (the listed package variables as the program's text lays them).
-/
import Derived.Test.YtlegngbbcckmnaaGreatDoorZInterfereOrder7
set_option maxRecDepth 100000
set_option maxHeartbeats 4000000
namespace Go.Proofs.YtlegngbbcckmnaaGreatDoor
open Go.Fw Go.Proofs Go.RowKit Go.ChangeShapes Go.WideShapes Tryz
theorem p8a:Rows.interfereOrderRow.wfByText (OpenSpec.ofChange Rows.interfereOrderSpec)=true:=by kernel_rfl
theorem f8a:Tryz.pinned.checked.prog.mainIs=some (Rows.interfereOrderCard.stood.harness.1,Rows.interfereOrderCard.stood.harness.2.toList):=by kernel_rfl
theorem W7a:false=Tryz.pinned.checked.prog.looks []:=by kernel_rfl
theorem L7a:false=Rows.interfereOrderRow.goesBy Tryz.pinned.checked.prog:=by kernel_rfl
theorem Q7a:Tryz.pinned.checked.prog.funcNamed Rows.interfereOrderRow.func=some 6:=by kernel_rfl
theorem Y7a:([27,5,67,5].all fun u=>!Tryz.pinned.checked.prog.wantsStandIn u)=true:=by kernel_rfl
theorem interfereOrder_card:Rows.InterfereOrderCardSaid :=
 Claim7.holds_tied_plain_at .later [] [.data,.data,.data,.data,.data] true Rows.interfereOrderCard.stood.harness false
  k6a (fun _ h=>by cases h) p8a (fun _ h=>by cases h) interfereOrder_row_tie Z ⟨Z,Z⟩ f8a Z
  (fun f fn hf a0=>by
    obtain rfl:f=6:=Option.some.inj (Q7a.symm.trans hf) |>.symm;obtain rfl:fn=Tryz.f6:=(Option.some.inj (func6.symm.trans a0)).symm;exact⟨W7a,fun j t ht=>by
     rw[Tryz.params6] at ht;have hm:t∈[27,5,67,5]:=by simpa using Array.mem_of_getElem? ht
     simpa using List.all_eq_true.1 Y7a t hm⟩)
  L7a
#print axioms interfereOrder_card
end Go.Proofs.YtlegngbbcckmnaaGreatDoor
