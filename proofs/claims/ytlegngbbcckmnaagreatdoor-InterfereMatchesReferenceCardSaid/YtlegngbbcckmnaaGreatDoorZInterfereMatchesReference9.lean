/-
  Part 9 of 9 of a proof: InterfereMatchesReference of package relyguardlaw16 returns true for every input, and its arguments read as before.
  Conditions: those of the given row (the listed package variables as the program's text lays them).
-/
import Derived.Test.YtlegngbbcckmnaaGreatDoorZInterfereMatchesReference8
set_option maxRecDepth 100000
set_option maxHeartbeats 4000000
namespace Go.Proofs.YtlegngbbcckmnaaGreatDoor
open Go.Fw Go.Proofs Go.RowKit Go.ChangeShapes Go.WideShapes Tryz
theorem x4a:Rows.interfereMatchesReferenceRow.wfByText (OpenSpec.ofChange Rows.interfereMatchesReferenceSpec)=true:=by kernel_rfl
theorem B4a:Tryz.pinned.checked.prog.mainIs=some (Rows.interfereMatchesReferenceCard.stood.harness.1,Rows.interfereMatchesReferenceCard.stood.harness.2.toList):=by kernel_rfl
theorem p4a:false=Tryz.pinned.checked.prog.looks []:=by kernel_rfl
theorem C4a:false=Rows.interfereMatchesReferenceRow.goesBy Tryz.pinned.checked.prog:=by kernel_rfl
theorem r4a:Tryz.pinned.checked.prog.funcNamed Rows.interfereMatchesReferenceRow.func=some 3:=by kernel_rfl
theorem s4a:([27,3,3,28].all fun u=>!Tryz.pinned.checked.prog.wantsStandIn u)=true:=by kernel_rfl
theorem interfereMatchesReference_card:Rows.InterfereMatchesReferenceCardSaid :=
 Claim7.holds_tied_plain_at .later [] [.data,.data,.data,.data,.data] true Rows.interfereMatchesReferenceCard.stood.harness false
  B3a (fun _ h=>by cases h) x4a (fun _ h=>by cases h) interfereMatchesReference_row_tie Z ⟨Z,Z⟩ B4a Z
  (fun f fn hf a0=>by
    obtain rfl:f=3:=Option.some.inj (r4a.symm.trans hf) |>.symm;obtain rfl:fn=Tryz.f3:=(Option.some.inj (func3.symm.trans a0)).symm;exact⟨p4a,fun j t ht=>by
     rw[Tryz.params3] at ht;have hm:t∈[27,3,3,28]:=by simpa using Array.mem_of_getElem? ht
     simpa using List.all_eq_true.1 s4a t hm⟩)
  C4a
#print axioms interfereMatchesReference_card
end Go.Proofs.YtlegngbbcckmnaaGreatDoor
