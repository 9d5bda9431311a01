/-
  Part 9 of 9 of a proof: ShrinkShortest of package relyguardlaw14 returns true for every input, and its arguments read as before.
  Conditions: those of the given row (the listed package variables as the program's text lays them).
-/
import Derived.Test.YtfkfflniambckaaGreatDoorZShrinkShortest8
set_option maxRecDepth 100000
set_option maxHeartbeats 4000000
namespace Go.Proofs.YtfkfflniambckaaGreatDoor
open Go.Fw Go.Proofs Go.RowKit Go.ChangeShapes Go.WideShapes Tryz
theorem shrinkShortest_card:Rows.ShrinkShortestCardSaid :=
 Claim7.holds_tied_plain_at .later [] [.data] true Rows.shrinkShortestCard.stood.harness false
  K7a (fun _ h=>by cases h) (by kernel_rfl) (fun _ h=>by cases h) shrinkShortest_row_tie Z ⟨Z,Z⟩ (by kernel_rfl) Z
  (fun f fn hf b0=>by
    obtain rfl:f=7:=Option.some.inj ((show prog.funcNamed Rows.shrinkShortestRow.func=some 7 by kernel_rfl).symm.trans hf) |>.symm;obtain rfl:fn=Tryz.f7:=(Option.some.inj (func7.symm.trans b0)).symm;exact⟨by kernel_rfl,fun j t ht=>by
     rw[Tryz.params7] at ht;have hm:t∈[27,5]:=by simpa using Array.mem_of_getElem? ht
     have a0:([27,5].all fun u=>!prog.wantsStandIn u)=true:=by kernel_rfl
     exact(show prog.wantsStandIn t=false by simpa using List.all_eq_true.1 a0 t hm)⟩)
  (by kernel_rfl)
#print axioms shrinkShortest_card
end Go.Proofs.YtfkfflniambckaaGreatDoor
