/-
  Part 9 of 9 of a proof: InferFewer of package relyguardlaw34 returns true for every input, and its arguments read as before.
  Conditions: those of the given row (the listed package variables as the program's text lays them).
-/
import Derived.Test.YtgjenhndpfcjkaaGreatDoorZInferFewer8
set_option maxRecDepth 100000
set_option maxHeartbeats 4000000
namespace Go.Proofs.YtgjenhndpfcjkaaGreatDoor
open Go.Fw Go.Proofs Go.RowKit Go.ChangeShapes Go.WideShapes Tryz
theorem o2b:Rows.inferFewerRow.wfByText (OpenSpec.ofChange Rows.inferFewerSpec)=true:=by kernel_rfl
theorem f3b:Tryz.pinned.checked.prog.mainIs=some (Rows.inferFewerCard.stood.harness.1,Rows.inferFewerCard.stood.harness.2.toList):=by kernel_rfl
theorem r3b:false=Tryz.pinned.checked.prog.looks []:=by kernel_rfl
theorem N2b:false=Rows.inferFewerRow.goesBy Tryz.pinned.checked.prog:=by kernel_rfl
theorem k2b:Tryz.pinned.checked.prog.funcNamed Rows.inferFewerRow.func=some 5:=by kernel_rfl
theorem b3b:([27,5].all fun u=>!Tryz.pinned.checked.prog.wantsStandIn u)=true:=by kernel_rfl
theorem inferFewer_card:Rows.InferFewerCardSaid :=
 Claim7.holds_tied_plain_at .later [] [.data,.data,.data,.data,.data] true Rows.inferFewerCard.stood.harness false
  Q8a (fun _ h=>by cases h) o2b (fun _ h=>by cases h) inferFewer_row_tie Z ⟨Z,Z⟩ f3b Z
  (fun f fn hf a0=>by
    obtain rfl:f=5:=Option.some.inj (k2b.symm.trans hf) |>.symm;obtain rfl:fn=Tryz.f5:=(Option.some.inj (func5.symm.trans a0)).symm;exact⟨r3b,fun j t ht=>by
     rw[Tryz.params5] at ht;have hm:t∈[27,5]:=by simpa using Array.mem_of_getElem? ht
     simpa using List.all_eq_true.1 b3b t hm⟩)
  N2b
#print axioms inferFewer_card
end Go.Proofs.YtgjenhndpfcjkaaGreatDoor
