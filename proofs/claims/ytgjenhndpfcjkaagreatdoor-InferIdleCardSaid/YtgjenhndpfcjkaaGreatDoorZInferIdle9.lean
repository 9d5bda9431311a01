/-
  Part 9 of 9 of a proof: InferIdle of package relyguardlaw34 returns true for every input, and its arguments read as before.
  Conditions: those of the given row (the listed package variables as the program's text lays them).
-/
import Derived.Test.YtgjenhndpfcjkaaGreatDoorZInferIdle8
set_option maxRecDepth 100000
set_option maxHeartbeats 4000000
namespace Go.Proofs.YtgjenhndpfcjkaaGreatDoor
open Go.Fw Go.Proofs Go.RowKit Go.ChangeShapes Go.WideShapes Tryz
theorem L3b:Rows.inferIdleRow.wfByText (OpenSpec.ofChange Rows.inferIdleSpec)=true:=by kernel_rfl
theorem K3b:Tryz.pinned.checked.prog.mainIs=some (Rows.inferIdleCard.stood.harness.1,Rows.inferIdleCard.stood.harness.2.toList):=by kernel_rfl
theorem r4b:false=Tryz.pinned.checked.prog.looks []:=by kernel_rfl
theorem R4b:false=Rows.inferIdleRow.goesBy Tryz.pinned.checked.prog:=by kernel_rfl
theorem X3b:Tryz.pinned.checked.prog.funcNamed Rows.inferIdleRow.func=some 7:=by kernel_rfl
theorem c4b:([27,54].all fun u=>!Tryz.pinned.checked.prog.wantsStandIn u)=true:=by kernel_rfl
theorem inferIdle_card:Rows.InferIdleCardSaid :=
 Claim7.holds_tied_plain_at .later [] [.data,.data,.data,.data,.data] true Rows.inferIdleCard.stood.harness false
  Y9a (fun _ h=>by cases h) L3b (fun _ h=>by cases h) inferIdle_row_tie Z ⟨Z,Z⟩ K3b Z
  (fun f fn hf a0=>by
    obtain rfl:f=7:=Option.some.inj (X3b.symm.trans hf) |>.symm;obtain rfl:fn=Tryz.f7:=(Option.some.inj (func7.symm.trans a0)).symm;exact⟨r4b,fun j t ht=>by
     rw[Tryz.params7] at ht;have hm:t∈[27,54]:=by simpa using Array.mem_of_getElem? ht
     simpa using List.all_eq_true.1 c4b t hm⟩)
  R4b
#print axioms inferIdle_card
end Go.Proofs.YtgjenhndpfcjkaaGreatDoor
