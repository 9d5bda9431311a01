/-
  Part 8 of 9 of the proof of ShrinkMinimal: what it leans on. No conditions.
-/
import Derived.Test.YtfkfflniambckaaGreatDoorZShrinkMinimal7
set_option maxRecDepth 100000
set_option maxHeartbeats 4000000
namespace Go.Proofs.YtfkfflniambckaaGreatDoor
open Go.Fw Go.Proofs Go.RowKit Go.ChangeShapes Go.WideShapes Tryz
theorem m9a:Tryz.pinned.checked.prog.mayEnter=true:=by kernel_rfl
theorem Q8a:(Rows.shrinkMinimalRow.lifted==Tryz.pinned.checked.prog.liftsFinal)=true:=by kernel_rfl
theorem b8a:Go.joinedFacts Tryz.pinned.checked.prog 6 Tryz.f6 Rows.shrinkMinimalSpec Rows.shrinkMinimalRow=true:=by
 unfold Go.joinedFacts;rw[m9a,Q8a]
 kernel_rfl
theorem O7a:Rows.ShrinkMinimalSaid :=
 OpenClaim.holds_of_wide 6 Tryz.f6 Z Z Z Z Z Z Z ⟨Z,Z,Z,Z,Z⟩ Z Z Z Z Z (by kernel_rfl) func6 b8a
  (of_decide_eq_true (by kernel_rfl)) (by unfold Func.isWrapper;(rw[if_neg (by decide +kernel)];exact⟨Z,Z⟩))
  (fun os a0 H enc _=>F7a os a0 H enc)
end Go.Proofs.YtfkfflniambckaaGreatDoor
