/-
  Part 8 of 8 of a proof: InterfereStep of package relyguardlaw16 returns true for every input, and its arguments read as before.
  Conditions: those of the given row (the listed package variables as the program's text lays them).
-/
import Derived.Test.YtlegngbbcckmnaaGreatDoorZInterfereStep7
set_option maxRecDepth 100000
set_option maxHeartbeats 4000000
namespace Go.Proofs.YtlegngbbcckmnaaGreatDoor
open Go.Fw Go.Proofs Go.RowKit Go.ChangeShapes Go.WideShapes Tryz
theorem q9a:Rows.interfereStepRow.wfByText (OpenSpec.ofChange Rows.interfereStepSpec)=true:=by kernel_rfl
theorem o9a:Tryz.pinned.checked.prog.mainIs=some (Rows.interfereStepCard.stood.harness.1,Rows.interfereStepCard.stood.harness.2.toList):=by kernel_rfl
theorem i9a:false=Tryz.pinned.checked.prog.looks []:=by kernel_rfl
theorem j9a:false=Rows.interfereStepRow.goesBy Tryz.pinned.checked.prog:=by kernel_rfl
theorem m9a:Tryz.pinned.checked.prog.funcNamed Rows.interfereStepRow.func=some 4:=by kernel_rfl
theorem e9a:([27,47].all fun u=>!Tryz.pinned.checked.prog.wantsStandIn u)=true:=by kernel_rfl
theorem interfereStep_card:Rows.InterfereStepCardSaid :=
 Claim7.holds_tied_plain_at .later [] [.data,.data,.data,.data,.data] true Rows.interfereStepCard.stood.harness false
  Q6a (fun _ h=>by cases h) q9a (fun _ h=>by cases h) interfereStep_row_tie Z ⟨Z,Z⟩ o9a Z
  (fun f fn hf a0=>by
    obtain rfl:f=4:=Option.some.inj (m9a.symm.trans hf) |>.symm;obtain rfl:fn=Tryz.f4:=(Option.some.inj (func4.symm.trans a0)).symm;exact⟨i9a,fun j t ht=>by
     rw[Tryz.params4] at ht;have hm:t∈[27,47]:=by simpa using Array.mem_of_getElem? ht
     simpa using List.all_eq_true.1 e9a t hm⟩)
  j9a
#print axioms interfereStep_card
end Go.Proofs.YtlegngbbcckmnaaGreatDoor
