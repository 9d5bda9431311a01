/-
  Part 7 of 8 of the proof of InterfereStep: what it leans on. No conditions.
-/
import Derived.Test.YtlegngbbcckmnaaGreatDoorZInterfereStep6
set_option maxRecDepth 100000
set_option maxHeartbeats 4000000
namespace Go.Proofs.YtlegngbbcckmnaaGreatDoor
open Go.Fw Go.Proofs Go.RowKit Go.ChangeShapes Go.WideShapes Tryz
theorem z8a:Tryz.pinned.checked.prog.mayEnter=true:=by kernel_rfl
theorem y7a:(Rows.interfereStepRow.lifted==Tryz.pinned.checked.prog.liftsFinal)=true:=by kernel_rfl
theorem d9a:(Rows.interfereStepRow.inPlace==Tryz.pinned.checked.prog.inPlace 4)=true:=by kernel_rfl
theorem k9a:(Rows.interfereStepRow.unfollowed==Tryz.pinned.checked.prog.unfollowed 4)=true:=by kernel_rfl
theorem o9a:(Rows.interfereStepRow.recurses==Tryz.pinned.checked.prog.recurses 4)=true:=by kernel_rfl
theorem c9a:(Rows.interfereStepRow.named==Tryz.pinned.checked.prog.varsNamed 4)=true:=by kernel_rfl
theorem a9a:Tryz.pinned.checked.prog.stopsHeard=true:=by kernel_rfl
theorem X8a:(Tryz.pinned.checked.prog.make==some Rows.interfereStepRow.make)=true:=by kernel_rfl
theorem p9a:mapsRowed Tryz.pinned.checked.prog=true:=by kernel_rfl
theorem j9a:laidOutB Tryz.pinned.checked.prog=true:=by kernel_rfl
theorem h7a:Go.joinedFacts Tryz.pinned.checked.prog 4 Tryz.f4 Rows.interfereStepSpec Rows.interfereStepRow=true:=by
 unfold Go.joinedFacts;rw[z8a,y7a,d9a,k9a,o9a,c9a,a9a,X8a,p9a,j9a]
 kernel_rfl
theorem b7a:Rows.InterfereStepSaid :=
 OpenClaim.holds_of_wide 4 Tryz.f4 Z Z Z Z Z Z Z ⟨Z,Z,Z,Z,Z⟩ Z Z Z Z Z (by kernel_rfl) func4 h7a
  (of_decide_eq_true (by kernel_rfl)) (by unfold Func.isWrapper;(rw[if_neg (by decide +kernel)];exact⟨Z,Z⟩))
  (fun os a0 H enc _=>F6a os a0 H enc)
end Go.Proofs.YtlegngbbcckmnaaGreatDoor
