/-
  Part 8 of 9 of the proof of InferFrames: what it leans on. No conditions.
-/
import Derived.Test.YtgjenhndpfcjkaaGreatDoorZInferFrames7
set_option maxRecDepth 100000
set_option maxHeartbeats 4000000
namespace Go.Proofs.YtgjenhndpfcjkaaGreatDoor
open Go.Fw Go.Proofs Go.RowKit Go.ChangeShapes Go.WideShapes Tryz
theorem J0b:Tryz.pinned.checked.prog.mayEnter=true:=by kernel_rfl
theorem f9a:(Rows.inferFramesRow.lifted==Tryz.pinned.checked.prog.liftsFinal)=true:=by kernel_rfl
theorem r1b:(Rows.inferFramesRow.inPlace==Tryz.pinned.checked.prog.inPlace 6)=true:=by kernel_rfl
theorem w1b:(Rows.inferFramesRow.unfollowed==Tryz.pinned.checked.prog.unfollowed 6)=true:=by kernel_rfl
theorem H1b:(Rows.inferFramesRow.recurses==Tryz.pinned.checked.prog.recurses 6)=true:=by kernel_rfl
theorem k1b:(Rows.inferFramesRow.named==Tryz.pinned.checked.prog.varsNamed 6)=true:=by kernel_rfl
theorem x1b:Tryz.pinned.checked.prog.stopsHeard=true:=by kernel_rfl
theorem C1b:(Tryz.pinned.checked.prog.make==some Rows.inferFramesRow.make)=true:=by kernel_rfl
theorem m1b:mapsRowed Tryz.pinned.checked.prog=true:=by kernel_rfl
theorem F1b:laidOutB Tryz.pinned.checked.prog=true:=by kernel_rfl
theorem R7a:Go.joinedFacts Tryz.pinned.checked.prog 6 Tryz.f6 Rows.inferFramesSpec Rows.inferFramesRow=true:=by
 unfold Go.joinedFacts;rw[J0b,f9a,r1b,w1b,H1b,k1b,x1b,C1b,m1b,F1b]
 kernel_rfl
theorem s8a:Rows.InferFramesSaid :=
 OpenClaim.holds_of_wide 6 Tryz.f6 Z Z Z Z Z Z Z ⟨Z,Z,Z,Z,Z⟩ Z Z Z Z Z (by kernel_rfl) func6 R7a
  (of_decide_eq_true (by kernel_rfl)) (by unfold Func.isWrapper;first|(rw[if_pos (by decide +kernel)];kernel_rfl)|(rw[if_neg (by decide +kernel)];exact⟨Z,Z⟩))
  (fun os a0 H enc _=>y7a os a0 H enc)
end Go.Proofs.YtgjenhndpfcjkaaGreatDoor
