/-
  Part 7 of 8 of the proof of InterfereStep: what it leans on. No conditions.
-/
import Derived.Test.YtlegngbbcckmnaaGreatDoorZInterfereStep6
set_option maxRecDepth 100000
set_option maxHeartbeats 4000000
namespace Go.Proofs.YtlegngbbcckmnaaGreatDoor
open Go.Fw Go.Proofs Go.RowKit Go.ChangeShapes Go.WideShapes Tryz
theorem n8a:Tryz.pinned.checked.prog.mayEnter=true:=by kernel_rfl
theorem W7a:(Rows.interfereStepRow.lifted==Tryz.pinned.checked.prog.liftsFinal)=true:=by kernel_rfl
theorem c9a:(Rows.interfereStepRow.inPlace==Tryz.pinned.checked.prog.inPlace 4)=true:=by kernel_rfl
theorem u9a:(Rows.interfereStepRow.unfollowed==Tryz.pinned.checked.prog.unfollowed 4)=true:=by kernel_rfl
theorem Z8a:(Rows.interfereStepRow.recurses==Tryz.pinned.checked.prog.recurses 4)=true:=by kernel_rfl
theorem n9a:(Rows.interfereStepRow.named==Tryz.pinned.checked.prog.varsNamed 4)=true:=by kernel_rfl
theorem d9a:Tryz.pinned.checked.prog.stopsHeard=true:=by kernel_rfl
theorem r9a:(Tryz.pinned.checked.prog.make==some Rows.interfereStepRow.make)=true:=by kernel_rfl
theorem t9a:mapsRowed Tryz.pinned.checked.prog=true:=by kernel_rfl
theorem s9a:laidOutB Tryz.pinned.checked.prog=true:=by kernel_rfl
theorem c7a:Go.joinedFacts Tryz.pinned.checked.prog 4 Tryz.f4 Rows.interfereStepSpec Rows.interfereStepRow=true:=by
 unfold Go.joinedFacts;rw[n8a,W7a,c9a,u9a,Z8a,n9a,d9a,r9a,t9a,s9a]
 kernel_rfl
theorem Q6a:Rows.InterfereStepSaid :=
 OpenClaim.holds_of_wide 4 Tryz.f4 Z Z Z Z Z Z Z ⟨Z,Z,Z,Z,Z⟩ Z Z Z Z Z (by kernel_rfl) func4 c7a
  (of_decide_eq_true (by kernel_rfl)) (by unfold Func.isWrapper;(rw[if_neg (by decide +kernel)];exact⟨Z,Z⟩))
  (fun os a0 H enc _=>E6a os a0 H enc)
end Go.Proofs.YtlegngbbcckmnaaGreatDoor
