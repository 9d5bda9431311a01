/-
  Part 9 of 9 of a proof: InferInterference of package relyguardlaw34 returns true for every input, and its arguments read as before.
  Conditions: those of the given row (the listed package variables as the program's text lays them).
-/
import Derived.Test.YtgjenhndpfcjkaaGreatDoorZInferInterference8
set_option maxRecDepth 100000
set_option maxHeartbeats 4000000
namespace Go.Proofs.YtgjenhndpfcjkaaGreatDoor
open Go.Fw Go.Proofs Go.RowKit Go.ChangeShapes Go.WideShapes Tryz
theorem A6a:Rows.inferInterferenceRow.wfByText (OpenSpec.ofChange Rows.inferInterferenceSpec)=true:=by kernel_rfl
theorem K6a:Tryz.pinned.checked.prog.mainIs=some (Rows.inferInterferenceCard.stood.harness.1,Rows.inferInterferenceCard.stood.harness.2.toList):=by kernel_rfl
theorem D6a:false=Tryz.pinned.checked.prog.looks []:=by kernel_rfl
theorem N6a:false=Rows.inferInterferenceRow.goesBy Tryz.pinned.checked.prog:=by kernel_rfl
theorem J6a:Tryz.pinned.checked.prog.funcNamed Rows.inferInterferenceRow.func=some 4:=by kernel_rfl
theorem x6a:([27,5].all fun u=>!Tryz.pinned.checked.prog.wantsStandIn u)=true:=by kernel_rfl
theorem inferInterference_card:Rows.InferInterferenceCardSaid :=
 Claim7.holds_tied_plain_at .later [] [.data,.data,.data,.data,.data] true Rows.inferInterferenceCard.stood.harness false
  n5a (fun _ h=>by cases h) A6a (fun _ h=>by cases h) inferInterference_row_tie Z ⟨Z,Z⟩ K6a Z
  (fun f fn hf a0=>by
    obtain rfl:f=4:=Option.some.inj (J6a.symm.trans hf) |>.symm;obtain rfl:fn=Tryz.f4:=(Option.some.inj (func4.symm.trans a0)).symm;exact⟨D6a,fun j t ht=>by
     rw[Tryz.params4] at ht;have hm:t∈[27,5]:=by simpa using Array.mem_of_getElem? ht
     simpa using List.all_eq_true.1 x6a t hm⟩)
  N6a
#print axioms inferInterference_card
end Go.Proofs.YtgjenhndpfcjkaaGreatDoor
