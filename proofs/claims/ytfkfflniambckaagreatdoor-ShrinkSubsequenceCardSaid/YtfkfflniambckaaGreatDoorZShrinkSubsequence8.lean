/-
  Part 8 of 9 of the proof of ShrinkSubsequence: what it leans on. No conditions.
-/
import Derived.Test.YtfkfflniambckaaGreatDoorZShrinkSubsequence7
set_option maxRecDepth 100000
set_option maxHeartbeats 4000000
namespace Go.Proofs.YtfkfflniambckaaGreatDoor
open Go.Fw Go.Proofs Go.RowKit Go.ChangeShapes Go.WideShapes Tryz
theorem P6a:Tryz.pinned.checked.prog.mayEnter=true:=by kernel_rfl
theorem B6a:(Rows.shrinkSubsequenceRow.lifted==Tryz.pinned.checked.prog.liftsFinal)=true:=by kernel_rfl
theorem m6a:Go.joinedFacts Tryz.pinned.checked.prog 5 Tryz.f5 Rows.shrinkSubsequenceSpec Rows.shrinkSubsequenceRow=true:=by
 unfold Go.joinedFacts;rw[P6a,B6a]
 kernel_rfl
theorem f6a:Rows.ShrinkSubsequenceSaid :=
 OpenClaim.holds_of_wide 5 Tryz.f5 Z Z Z Z Z Z Z ⟨Z,Z,Z,Z,Z⟩ Z Z Z Z Z (by kernel_rfl) func5 m6a
  (of_decide_eq_true (by kernel_rfl)) (by unfold Func.isWrapper;(rw[if_neg (by decide +kernel)];exact⟨Z,Z⟩))
  (fun os a0 H enc _=>S5a os a0 H enc)
end Go.Proofs.YtfkfflniambckaaGreatDoor
