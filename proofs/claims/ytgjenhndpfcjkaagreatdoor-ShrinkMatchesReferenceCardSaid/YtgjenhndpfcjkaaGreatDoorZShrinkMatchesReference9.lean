/-
  Part 9 of 9 of a proof: ShrinkMatchesReference of package relyguardlaw34 returns true for every input, and its arguments read as before.
  Conditions: those of the given row (the listed package variables as the program's text lays them).
-/
import Derived.Test.YtgjenhndpfcjkaaGreatDoorZShrinkMatchesReference8
set_option maxRecDepth 100000
set_option maxHeartbeats 4000000
namespace Go.Proofs.YtgjenhndpfcjkaaGreatDoor
open Go.Fw Go.Proofs Go.RowKit Go.ChangeShapes Go.WideShapes Tryz
theorem j6a:Rows.shrinkMatchesReferenceRow.wfByText (OpenSpec.ofChange Rows.shrinkMatchesReferenceSpec)=true:=by kernel_rfl
theorem i6a:Tryz.pinned.checked.prog.mainIs=some (Rows.shrinkMatchesReferenceCard.stood.harness.1,Rows.shrinkMatchesReferenceCard.stood.harness.2.toList):=by kernel_rfl
theorem Z5a:false=Tryz.pinned.checked.prog.looks []:=by kernel_rfl
theorem T5a:false=Rows.shrinkMatchesReferenceRow.goesBy Tryz.pinned.checked.prog:=by kernel_rfl
theorem g6a:Tryz.pinned.checked.prog.funcNamed Rows.shrinkMatchesReferenceRow.func=some 3:=by kernel_rfl
theorem k6a:([27,3,28].all fun u=>!Tryz.pinned.checked.prog.wantsStandIn u)=true:=by kernel_rfl
theorem shrinkMatchesReference_card:Rows.ShrinkMatchesReferenceCardSaid :=
 Claim7.holds_tied_plain_at .later [] [.data] true Rows.shrinkMatchesReferenceCard.stood.harness false
  e5a (fun _ h=>by cases h) j6a (fun _ h=>by cases h) shrinkMatchesReference_row_tie Z ⟨Z,Z⟩ i6a Z
  (fun f fn hf a0=>by
    obtain rfl:f=3:=Option.some.inj (g6a.symm.trans hf) |>.symm;obtain rfl:fn=Tryz.f3:=(Option.some.inj (func3.symm.trans a0)).symm;exact⟨Z5a,fun j t ht=>by
     rw[Tryz.params3] at ht;have hm:t∈[27,3,28]:=by simpa using Array.mem_of_getElem? ht
     simpa using List.all_eq_true.1 k6a t hm⟩)
  T5a
#print axioms shrinkMatchesReference_card
end Go.Proofs.YtgjenhndpfcjkaaGreatDoor
