/-
  Part 8 of 8 of a proof: InterfereRestriction of package relyguardlaw16 returns true for every input, and its arguments read as before.
  Conditions: those of the given row (the listed package variables as the program's text lays them).
-/
import Derived.Test.YtlegngbbcckmnaaGreatDoorZInterfereRestriction7
set_option maxRecDepth 100000
set_option maxHeartbeats 4000000
namespace Go.Proofs.YtlegngbbcckmnaaGreatDoor
open Go.Fw Go.Proofs Go.RowKit Go.ChangeShapes Go.WideShapes Tryz
theorem r5a:Rows.interfereRestrictionRow.wfByText (OpenSpec.ofChange Rows.interfereRestrictionSpec)=true:=by kernel_rfl
theorem k5a:Tryz.pinned.checked.prog.mainIs=some (Rows.interfereRestrictionCard.stood.harness.1,Rows.interfereRestrictionCard.stood.harness.2.toList):=by kernel_rfl
theorem t5a:false=Tryz.pinned.checked.prog.looks []:=by kernel_rfl
theorem b5a:false=Rows.interfereRestrictionRow.goesBy Tryz.pinned.checked.prog:=by kernel_rfl
theorem n5a:Tryz.pinned.checked.prog.funcNamed Rows.interfereRestrictionRow.func=some 9:=by kernel_rfl
theorem g5a:([27,5,67,67].all fun u=>!Tryz.pinned.checked.prog.wantsStandIn u)=true:=by kernel_rfl
theorem interfereRestriction_card:Rows.InterfereRestrictionCardSaid :=
 Claim7.holds_tied_plain_at .later [] [.data,.data,.data,.data,.data] true Rows.interfereRestrictionCard.stood.harness false
  p4a (fun _ h=>by cases h) r5a (fun _ h=>by cases h) interfereRestriction_row_tie Z ⟨Z,Z⟩ k5a Z
  (fun f fn hf a0=>by
    obtain rfl:f=9:=Option.some.inj (n5a.symm.trans hf) |>.symm;obtain rfl:fn=Tryz.f9:=(Option.some.inj (func9.symm.trans a0)).symm;exact⟨t5a,fun j t ht=>by
     rw[Tryz.params9] at ht;have hm:t∈[27,5,67,67]:=by simpa using Array.mem_of_getElem? ht
     simpa using List.all_eq_true.1 g5a t hm⟩)
  b5a
#print axioms interfereRestriction_card
end Go.Proofs.YtlegngbbcckmnaaGreatDoor
