/-
  Part 8 of 9 of the proof of ShrinkShortest: what it leans on. No conditions.
-/
import Derived.Test.YtfkfflniambckaaGreatDoorZShrinkShortest7
set_option maxRecDepth 100000
set_option maxHeartbeats 4000000
namespace Go.Proofs.YtfkfflniambckaaGreatDoor
open Go.Fw Go.Proofs Go.RowKit Go.ChangeShapes Go.WideShapes Tryz
theorem z8a:Tryz.pinned.checked.prog.mayEnter=true:=by kernel_rfl
theorem a8a:(Rows.shrinkShortestRow.lifted==Tryz.pinned.checked.prog.liftsFinal)=true:=by kernel_rfl
theorem I7a:Go.joinedFacts Tryz.pinned.checked.prog 7 Tryz.f7 Rows.shrinkShortestSpec Rows.shrinkShortestRow=true:=by
 unfold Go.joinedFacts;rw[z8a,a8a]
 kernel_rfl
theorem K7a:Rows.ShrinkShortestSaid :=
 OpenClaim.holds_of_wide 7 Tryz.f7 Z Z Z Z Z Z Z ⟨Z,Z,Z,Z,Z⟩ Z Z Z Z Z (by kernel_rfl) func7 I7a
  (of_decide_eq_true (by kernel_rfl)) (by unfold Func.isWrapper;(rw[if_neg (by decide +kernel)];exact⟨Z,Z⟩))
  (fun os a0 H enc _=>i7a os a0 H enc)
end Go.Proofs.YtfkfflniambckaaGreatDoor
