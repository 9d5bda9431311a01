/-
  Part 8 of 9 of the proof of InterfereRuns: what it leans on. No conditions.
-/
import Derived.Test.YtlegngbbcckmnaaGreatDoorZInterfereRuns7
set_option maxRecDepth 100000
set_option maxHeartbeats 4000000
namespace Go.Proofs.YtlegngbbcckmnaaGreatDoor
open Go.Fw Go.Proofs Go.RowKit Go.ChangeShapes Go.WideShapes Tryz
theorem y8a:Tryz.pinned.checked.prog.mayEnter=true:=by kernel_rfl
theorem g8a:(Rows.interfereRunsRow.lifted==Tryz.pinned.checked.prog.liftsFinal)=true:=by kernel_rfl
theorem y9a:(Rows.interfereRunsRow.inPlace==Tryz.pinned.checked.prog.inPlace 5)=true:=by kernel_rfl
theorem E9a:(Rows.interfereRunsRow.unfollowed==Tryz.pinned.checked.prog.unfollowed 5)=true:=by kernel_rfl
theorem D9a:(Rows.interfereRunsRow.recurses==Tryz.pinned.checked.prog.recurses 5)=true:=by kernel_rfl
theorem I9a:(Rows.interfereRunsRow.named==Tryz.pinned.checked.prog.varsNamed 5)=true:=by kernel_rfl
theorem B9a:Tryz.pinned.checked.prog.stopsHeard=true:=by kernel_rfl
theorem H9a:(Tryz.pinned.checked.prog.make==some Rows.interfereRunsRow.make)=true:=by kernel_rfl
theorem u9a:mapsRowed Tryz.pinned.checked.prog=true:=by kernel_rfl
theorem z9a:laidOutB Tryz.pinned.checked.prog=true:=by kernel_rfl
theorem j7a:Go.joinedFacts Tryz.pinned.checked.prog 5 Tryz.f5 Rows.interfereRunsSpec Rows.interfereRunsRow=true:=by
 unfold Go.joinedFacts;rw[y8a,g8a,y9a,E9a,D9a,I9a,B9a,H9a,u9a,z9a]
 kernel_rfl
theorem s7a:Rows.InterfereRunsSaid :=
 OpenClaim.holds_of_wide 5 Tryz.f5 Z Z Z Z Z Z Z ⟨Z,Z,Z,Z,Z⟩ Z Z Z Z Z (by kernel_rfl) func5 j7a
  (of_decide_eq_true (by kernel_rfl)) (by unfold Func.isWrapper;(rw[if_neg (by decide +kernel)];exact⟨Z,Z⟩))
  (fun os a0 H enc _=>T6a os a0 H enc)
end Go.Proofs.YtlegngbbcckmnaaGreatDoor
