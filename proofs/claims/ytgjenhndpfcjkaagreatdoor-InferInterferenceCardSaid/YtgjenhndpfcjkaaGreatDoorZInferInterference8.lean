/-
  Part 8 of 9 of the proof of InferInterference: what it leans on. No conditions.
-/
import Derived.Test.YtgjenhndpfcjkaaGreatDoorZInferInterference7
set_option maxRecDepth 100000
set_option maxHeartbeats 4000000
namespace Go.Proofs.YtgjenhndpfcjkaaGreatDoor
open Go.Fw Go.Proofs Go.RowKit Go.ChangeShapes Go.WideShapes Tryz
theorem W5a:Tryz.pinned.checked.prog.mayEnter=true:=by kernel_rfl
theorem E5a:(Rows.inferInterferenceRow.lifted==Tryz.pinned.checked.prog.liftsFinal)=true:=by kernel_rfl
theorem v6a:(Rows.inferInterferenceRow.inPlace==Tryz.pinned.checked.prog.inPlace 4)=true:=by kernel_rfl
theorem C6a:(Rows.inferInterferenceRow.unfollowed==Tryz.pinned.checked.prog.unfollowed 4)=true:=by kernel_rfl
theorem M6a:(Rows.inferInterferenceRow.recurses==Tryz.pinned.checked.prog.recurses 4)=true:=by kernel_rfl
theorem w6a:(Rows.inferInterferenceRow.named==Tryz.pinned.checked.prog.varsNamed 4)=true:=by kernel_rfl
theorem B6a:Tryz.pinned.checked.prog.stopsHeard=true:=by kernel_rfl
theorem H6a:(Tryz.pinned.checked.prog.make==some Rows.inferInterferenceRow.make)=true:=by kernel_rfl
theorem F6a:mapsRowed Tryz.pinned.checked.prog=true:=by kernel_rfl
theorem I6a:laidOutB Tryz.pinned.checked.prog=true:=by kernel_rfl
theorem o5a:Go.joinedFacts Tryz.pinned.checked.prog 4 Tryz.f4 Rows.inferInterferenceSpec Rows.inferInterferenceRow=true:=by
 unfold Go.joinedFacts;rw[W5a,E5a,v6a,C6a,M6a,w6a,B6a,H6a,F6a,I6a]
 kernel_rfl
theorem n5a:Rows.InferInterferenceSaid :=
 OpenClaim.holds_of_wide 4 Tryz.f4 Z Z Z Z Z Z Z ⟨Z,Z,Z,Z,Z⟩ Z Z Z Z Z (by kernel_rfl) func4 o5a
  (of_decide_eq_true (by kernel_rfl)) (by unfold Func.isWrapper;first|(rw[if_pos (by decide +kernel)];kernel_rfl)|(rw[if_neg (by decide +kernel)];exact⟨Z,Z⟩))
  (fun os a0 H enc _=>V4a os a0 H enc)
end Go.Proofs.YtgjenhndpfcjkaaGreatDoor
