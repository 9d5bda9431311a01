/-
  Part 8 of 8 of a proof: InterferePairs of package relyguardlaw16 returns true for every input, and its arguments read as before.
  Conditions: those of the given row (the listed package variables as the program's text lays them).
-/
import Derived.Test.YtlegngbbcckmnaaGreatDoorZInterferePairs7
set_option maxRecDepth 100000
set_option maxHeartbeats 4000000
namespace Go.Proofs.YtlegngbbcckmnaaGreatDoor
open Go.Fw Go.Proofs Go.RowKit Go.ChangeShapes Go.WideShapes Tryz
theorem c8a:Rows.interferePairsRow.wfByText (OpenSpec.ofChange Rows.interferePairsSpec)=true:=by kernel_rfl
theorem r8a:Tryz.pinned.checked.prog.mainIs=some (Rows.interferePairsCard.stood.harness.1,Rows.interferePairsCard.stood.harness.2.toList):=by kernel_rfl
theorem e8a:false=Tryz.pinned.checked.prog.looks []:=by kernel_rfl
theorem O7a:false=Rows.interferePairsRow.goesBy Tryz.pinned.checked.prog:=by kernel_rfl
theorem i8a:Tryz.pinned.checked.prog.funcNamed Rows.interferePairsRow.func=some 8:=by kernel_rfl
theorem k8a:([27,28,28].all fun u=>!Tryz.pinned.checked.prog.wantsStandIn u)=true:=by kernel_rfl
theorem interferePairs_card:Rows.InterferePairsCardSaid :=
 Claim7.holds_tied_plain_at .later [] [.data,.data,.data,.data,.data] true Rows.interferePairsCard.stood.harness false
  g6a (fun _ h=>by cases h) c8a (fun _ h=>by cases h) interferePairs_row_tie Z ⟨Z,Z⟩ r8a Z
  (fun f fn hf a0=>by
    obtain rfl:f=8:=Option.some.inj (i8a.symm.trans hf) |>.symm;obtain rfl:fn=Tryz.f8:=(Option.some.inj (func8.symm.trans a0)).symm;exact⟨e8a,fun j t ht=>by
     rw[Tryz.params8] at ht;have hm:t∈[27,28,28]:=by simpa using Array.mem_of_getElem? ht
     simpa using List.all_eq_true.1 k8a t hm⟩)
  O7a
#print axioms interferePairs_card
end Go.Proofs.YtlegngbbcckmnaaGreatDoor
