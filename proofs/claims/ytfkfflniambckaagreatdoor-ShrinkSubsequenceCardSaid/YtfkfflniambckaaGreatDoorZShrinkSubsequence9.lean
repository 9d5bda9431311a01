/-
  Part 9 of 9 of a proof: ShrinkSubsequence of package relyguardlaw14 returns true for every input, and its arguments read as before.
  Conditions: those of the given row (the listed package variables as the program's text lays them).
-/
import Derived.Test.YtfkfflniambckaaGreatDoorZShrinkSubsequence8
set_option maxRecDepth 100000
set_option maxHeartbeats 4000000
namespace Go.Proofs.YtfkfflniambckaaGreatDoor
open Go.Fw Go.Proofs Go.RowKit Go.ChangeShapes Go.WideShapes Tryz
theorem shrinkSubsequence_card:Rows.ShrinkSubsequenceCardSaid :=
 Claim7.holds_tied_plain_at .later [] [.data] true Rows.shrinkSubsequenceCard.stood.harness false
  f6a (fun _ h=>by cases h) (by kernel_rfl) (fun _ h=>by cases h) shrinkSubsequence_row_tie Z ⟨Z,Z⟩ (by kernel_rfl) Z
  (fun f fn hf b0=>by
    obtain rfl:f=5:=Option.some.inj ((show prog.funcNamed Rows.shrinkSubsequenceRow.func=some 5 by kernel_rfl).symm.trans hf) |>.symm;obtain rfl:fn=Tryz.f5:=(Option.some.inj (func5.symm.trans b0)).symm;exact⟨by kernel_rfl,fun j t ht=>by
     rw[Tryz.params5] at ht;have hm:t∈[27,5,41]:=by simpa using Array.mem_of_getElem? ht
     have a0:([27,5,41].all fun u=>!prog.wantsStandIn u)=true:=by kernel_rfl
     exact(show prog.wantsStandIn t=false by simpa using List.all_eq_true.1 a0 t hm)⟩)
  (by kernel_rfl)
#print axioms shrinkSubsequence_card
end Go.Proofs.YtfkfflniambckaaGreatDoor
