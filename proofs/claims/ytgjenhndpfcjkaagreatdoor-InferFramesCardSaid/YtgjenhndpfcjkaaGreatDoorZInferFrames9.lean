/-
  Part 9 of 9 of a proof: InferFrames of package relyguardlaw34 returns true for every input, and its arguments read as before.
  Conditions: those of the given row (the listed package variables as the program's text lays them).
-/
import Derived.Test.YtgjenhndpfcjkaaGreatDoorZInferFrames8
set_option maxRecDepth 100000
set_option maxHeartbeats 4000000
namespace Go.Proofs.YtgjenhndpfcjkaaGreatDoor
open Go.Fw Go.Proofs Go.RowKit Go.ChangeShapes Go.WideShapes Tryz
theorem j1b:Rows.inferFramesRow.wfByText (OpenSpec.ofChange Rows.inferFramesSpec)=true:=by kernel_rfl
theorem h1b:Tryz.pinned.checked.prog.mainIs=some (Rows.inferFramesCard.stood.harness.1,Rows.inferFramesCard.stood.harness.2.toList):=by kernel_rfl
theorem s1b:false=Tryz.pinned.checked.prog.looks []:=by kernel_rfl
theorem L1b:false=Rows.inferFramesRow.goesBy Tryz.pinned.checked.prog:=by kernel_rfl
theorem K1b:Tryz.pinned.checked.prog.funcNamed Rows.inferFramesRow.func=some 6:=by kernel_rfl
theorem v1b:([27,54].all fun u=>!Tryz.pinned.checked.prog.wantsStandIn u)=true:=by kernel_rfl
theorem inferFrames_card:Rows.InferFramesCardSaid :=
 Claim7.holds_tied_plain_at .later [] [.data,.data,.data,.data,.data] true Rows.inferFramesCard.stood.harness false
  s8a (fun _ h=>by cases h) j1b (fun _ h=>by cases h) inferFrames_row_tie Z ⟨Z,Z⟩ h1b Z
  (fun f fn hf a0=>by
    obtain rfl:f=6:=Option.some.inj (K1b.symm.trans hf) |>.symm;obtain rfl:fn=Tryz.f6:=(Option.some.inj (func6.symm.trans a0)).symm;exact⟨s1b,fun j t ht=>by
     rw[Tryz.params6] at ht;have hm:t∈[27,54]:=by simpa using Array.mem_of_getElem? ht
     simpa using List.all_eq_true.1 v1b t hm⟩)
  L1b
#print axioms inferFrames_card
end Go.Proofs.YtgjenhndpfcjkaaGreatDoor
