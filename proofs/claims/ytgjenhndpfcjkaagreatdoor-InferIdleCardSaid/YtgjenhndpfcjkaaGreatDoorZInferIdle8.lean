/-
  Part 8 of 9 of the proof of InferIdle: what it leans on. No conditions.
-/
import Derived.Test.YtgjenhndpfcjkaaGreatDoorZInferIdle7
set_option maxRecDepth 100000
set_option maxHeartbeats 4000000
namespace Go.Proofs.YtgjenhndpfcjkaaGreatDoor
open Go.Fw Go.Proofs Go.RowKit Go.ChangeShapes Go.WideShapes Tryz
theorem u3b:Tryz.pinned.checked.prog.mayEnter=true:=by kernel_rfl
theorem Z0b:(Rows.inferIdleRow.lifted==Tryz.pinned.checked.prog.liftsFinal)=true:=by kernel_rfl
theorem B4b:(Rows.inferIdleRow.inPlace==Tryz.pinned.checked.prog.inPlace 7)=true:=by kernel_rfl
theorem p5b:(Rows.inferIdleRow.unfollowed==Tryz.pinned.checked.prog.unfollowed 7)=true:=by kernel_rfl
theorem t4b:(Rows.inferIdleRow.recurses==Tryz.pinned.checked.prog.recurses 7)=true:=by kernel_rfl
theorem Y4b:(Rows.inferIdleRow.named==Tryz.pinned.checked.prog.varsNamed 7)=true:=by kernel_rfl
theorem V3b:Tryz.pinned.checked.prog.stopsHeard=true:=by kernel_rfl
theorem e4b:(Tryz.pinned.checked.prog.make==some Rows.inferIdleRow.make)=true:=by kernel_rfl
theorem i5b:mapsRowed Tryz.pinned.checked.prog=true:=by kernel_rfl
theorem M4b:laidOutB Tryz.pinned.checked.prog=true:=by kernel_rfl
theorem Q0b:Go.joinedFacts Tryz.pinned.checked.prog 7 Tryz.f7 Rows.inferIdleSpec Rows.inferIdleRow=true:=by
 unfold Go.joinedFacts;rw[u3b,Z0b,B4b,p5b,t4b,Y4b,V3b,e4b,i5b,M4b]
 kernel_rfl
theorem Y9a:Rows.InferIdleSaid :=
 OpenClaim.holds_of_wide 7 Tryz.f7 Z Z Z Z Z Z Z ⟨Z,Z,Z,Z,Z⟩ Z Z Z Z Z (by kernel_rfl) func7 Q0b
  (of_decide_eq_true (by kernel_rfl)) (by unfold Func.isWrapper;first|(rw[if_pos (by decide +kernel)];kernel_rfl)|(rw[if_neg (by decide +kernel)];exact⟨Z,Z⟩))
  (fun os a0 H enc _=>S8a os a0 H enc)
end Go.Proofs.YtgjenhndpfcjkaaGreatDoor
