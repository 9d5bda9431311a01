/-
  Part 7 of 8 of the proof of InterfereFrames: what it leans on. No conditions.
-/
import Derived.Test.YtlegngbbcckmnaaGreatDoorZInterfereFrames6
set_option maxRecDepth 100000
set_option maxHeartbeats 4000000
namespace Go.Proofs.YtlegngbbcckmnaaGreatDoor
open Go.Fw Go.Proofs Go.RowKit Go.ChangeShapes Go.WideShapes Tryz
theorem K6a:Tryz.pinned.checked.prog.mayEnter=true:=by kernel_rfl
theorem f6a:(Rows.interfereFramesRow.lifted==Tryz.pinned.checked.prog.liftsFinal)=true:=by kernel_rfl
theorem H7a:(Rows.interfereFramesRow.inPlace==Tryz.pinned.checked.prog.inPlace 7)=true:=by kernel_rfl
theorem V6a:(Rows.interfereFramesRow.unfollowed==Tryz.pinned.checked.prog.unfollowed 7)=true:=by kernel_rfl
theorem Q6a:(Rows.interfereFramesRow.recurses==Tryz.pinned.checked.prog.recurses 7)=true:=by kernel_rfl
theorem z7a:(Rows.interfereFramesRow.named==Tryz.pinned.checked.prog.varsNamed 7)=true:=by kernel_rfl
theorem g7a:Tryz.pinned.checked.prog.stopsHeard=true:=by kernel_rfl
theorem W6a:(Tryz.pinned.checked.prog.make==some Rows.interfereFramesRow.make)=true:=by kernel_rfl
theorem N6a:mapsRowed Tryz.pinned.checked.prog=true:=by kernel_rfl
theorem y7a:laidOutB Tryz.pinned.checked.prog=true:=by kernel_rfl
theorem A5a:Go.joinedFacts Tryz.pinned.checked.prog 7 Tryz.f7 Rows.interfereFramesSpec Rows.interfereFramesRow=true:=by
 unfold Go.joinedFacts;rw[K6a,f6a,H7a,V6a,Q6a,z7a,g7a,W6a,N6a,y7a]
 kernel_rfl
theorem P5a:Rows.InterfereFramesSaid :=
 OpenClaim.holds_of_wide 7 Tryz.f7 Z Z Z Z Z Z Z ⟨Z,Z,Z,Z,Z⟩ Z Z Z Z Z (by kernel_rfl) func7 A5a
  (of_decide_eq_true (by kernel_rfl)) (by unfold Func.isWrapper;(rw[if_neg (by decide +kernel)];exact⟨Z,Z⟩))
  (fun os a0 H enc _=>n5a os a0 H enc)
end Go.Proofs.YtlegngbbcckmnaaGreatDoor
