/-
  Part 8 of 9 of the proof of InferFewer: what it leans on. No conditions.
-/
import Derived.Test.YtgjenhndpfcjkaaGreatDoorZInferFewer7
set_option maxRecDepth 100000
set_option maxHeartbeats 4000000
namespace Go.Proofs.YtgjenhndpfcjkaaGreatDoor
open Go.Fw Go.Proofs Go.RowKit Go.ChangeShapes Go.WideShapes Tryz
theorem T0b:Tryz.pinned.checked.prog.mayEnter=true:=by kernel_rfl
theorem H0b:(Rows.inferFewerRow.lifted==Tryz.pinned.checked.prog.liftsFinal)=true:=by kernel_rfl
theorem e2b:(Rows.inferFewerRow.inPlace==Tryz.pinned.checked.prog.inPlace 5)=true:=by kernel_rfl
theorem a2b:(Rows.inferFewerRow.unfollowed==Tryz.pinned.checked.prog.unfollowed 5)=true:=by kernel_rfl
theorem h2b:(Rows.inferFewerRow.recurses==Tryz.pinned.checked.prog.recurses 5)=true:=by kernel_rfl
theorem y3b:(Rows.inferFewerRow.named==Tryz.pinned.checked.prog.varsNamed 5)=true:=by kernel_rfl
theorem u3b:Tryz.pinned.checked.prog.stopsHeard=true:=by kernel_rfl
theorem t3b:(Tryz.pinned.checked.prog.make==some Rows.inferFewerRow.make)=true:=by kernel_rfl
theorem h3b:mapsRowed Tryz.pinned.checked.prog=true:=by kernel_rfl
theorem i2b:laidOutB Tryz.pinned.checked.prog=true:=by kernel_rfl
theorem L8a:Go.joinedFacts Tryz.pinned.checked.prog 5 Tryz.f5 Rows.inferFewerSpec Rows.inferFewerRow=true:=by
 unfold Go.joinedFacts;rw[T0b,H0b,e2b,a2b,h2b,y3b,u3b,t3b,h3b,i2b]
 kernel_rfl
theorem Q8a:Rows.InferFewerSaid :=
 OpenClaim.holds_of_wide 5 Tryz.f5 Z Z Z Z Z Z Z ⟨Z,Z,Z,Z,Z⟩ Z Z Z Z Z (by kernel_rfl) func5 L8a
  (of_decide_eq_true (by kernel_rfl)) (by unfold Func.isWrapper;first|(rw[if_pos (by decide +kernel)];kernel_rfl)|(rw[if_neg (by decide +kernel)];exact⟨Z,Z⟩))
  (fun os a0 H enc _=>T7a os a0 H enc)
end Go.Proofs.YtgjenhndpfcjkaaGreatDoor
