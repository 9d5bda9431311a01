/-
  Part 8 of 9 of the proof of ExploreClosure: what it leans on. No conditions.
-/
import Derived.Test.YtfkfflniambckaaGreatDoorZExploreClosure7
set_option maxRecDepth 100000
set_option maxHeartbeats 4000000
namespace Go.Proofs.YtfkfflniambckaaGreatDoor
open Go.Fw Go.Proofs Go.RowKit Go.ChangeShapes Go.WideShapes
theorem D7a:Tryz.pinned.checked.prog.mayEnter=true:=by kernel_rfl
theorem v7a:(Rows.exploreClosureRow.lifted==Tryz.pinned.checked.prog.liftsFinal)=true:=by kernel_rfl
theorem X6a:Go.joinedFacts Tryz.pinned.checked.prog 3 Tryz.f3 Rows.exploreClosureSpec Rows.exploreClosureRow=true:=by
 unfold Go.joinedFacts;rw[D7a,v7a]
 kernel_rfl
theorem Y6a:Rows.ExploreClosureSaid :=
 OpenClaim.holds_of_wide 3 Tryz.f3 rfl rfl rfl rfl rfl rfl rfl ⟨rfl,rfl,rfl,rfl,rfl⟩ rfl rfl rfl rfl rfl (by kernel_rfl) Tryz.func3 X6a
  (of_decide_eq_true (by kernel_rfl)) (by unfold Func.isWrapper;(rw[if_neg (by decide +kernel)];exact⟨rfl,rfl⟩))
  (fun os a0 H enc _=>v6a os a0 H enc)
end Go.Proofs.YtfkfflniambckaaGreatDoor
