/-
  Part 9 of 9 of a proof: ExploreClosure of package relyguardlaw14 returns true for every input, and its arguments read as before.
  Conditions: those of the given row (the listed package variables as the program's text lays them).
-/
import Derived.Test.YtfkfflniambckaaGreatDoorZExploreClosure8
set_option maxRecDepth 100000
set_option maxHeartbeats 4000000
namespace Go.Proofs.YtfkfflniambckaaGreatDoor
open Go.Fw Go.Proofs Go.RowKit Go.ChangeShapes Go.WideShapes
theorem exploreClosure_card:Rows.ExploreClosureCardSaid :=
 Claim7.holds_tied_plain_at .later [] [.data] true Rows.exploreClosureCard.stood.harness false
  Y6a (fun _ h=>by cases h) (by kernel_rfl) (fun _ h=>by cases h) exploreClosure_row_tie rfl ⟨rfl,rfl⟩ (by kernel_rfl) rfl
  (fun f fn hf b0=>by
    obtain rfl:f=3:=Option.some.inj ((show Tryz.prog.funcNamed Rows.exploreClosureRow.func=some 3 by kernel_rfl).symm.trans hf) |>.symm;obtain rfl:fn=Tryz.f3:=(Option.some.inj (Tryz.func3.symm.trans b0)).symm;exact⟨by kernel_rfl,fun j t ht=>by
     rw[Tryz.params3] at ht;have hm:t∈[27,5]:=by simpa using Array.mem_of_getElem? ht
     have a0:([27,5].all fun u=>!Tryz.prog.wantsStandIn u)=true:=by kernel_rfl
     exact(show Tryz.prog.wantsStandIn t=false by simpa using List.all_eq_true.1 a0 t hm)⟩)
  (by kernel_rfl)
#print axioms exploreClosure_card
end Go.Proofs.YtfkfflniambckaaGreatDoor
