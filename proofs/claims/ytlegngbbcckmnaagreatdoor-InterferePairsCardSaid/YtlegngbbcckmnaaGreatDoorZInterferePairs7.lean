/-
  Part 7 of 8 of the proof of InterferePairs: what it leans on. No conditions.
-/
import Derived.Test.YtlegngbbcckmnaaGreatDoorZInterferePairs6
set_option maxRecDepth 100000
set_option maxHeartbeats 4000000
namespace Go.Proofs.YtlegngbbcckmnaaGreatDoor
open Go.Fw Go.Proofs Go.RowKit Go.ChangeShapes Go.WideShapes Tryz
theorem w7a:Tryz.pinned.checked.prog.mayEnter=true:=by kernel_rfl
theorem K6a:(Rows.interferePairsRow.lifted==Tryz.pinned.checked.prog.liftsFinal)=true:=by kernel_rfl
theorem T7a:(Rows.interferePairsRow.inPlace==Tryz.pinned.checked.prog.inPlace 8)=true:=by kernel_rfl
theorem m8a:(Rows.interferePairsRow.unfollowed==Tryz.pinned.checked.prog.unfollowed 8)=true:=by kernel_rfl
theorem W7a:(Rows.interferePairsRow.recurses==Tryz.pinned.checked.prog.recurses 8)=true:=by kernel_rfl
theorem s8a:(Rows.interferePairsRow.named==Tryz.pinned.checked.prog.varsNamed 8)=true:=by kernel_rfl
theorem E7a:Tryz.pinned.checked.prog.stopsHeard=true:=by kernel_rfl
theorem Y7a:(Tryz.pinned.checked.prog.make==some Rows.interferePairsRow.make)=true:=by kernel_rfl
theorem n8a:mapsRowed Tryz.pinned.checked.prog=true:=by kernel_rfl
theorem p8a:laidOutB Tryz.pinned.checked.prog=true:=by kernel_rfl
theorem e6a:Go.joinedFacts Tryz.pinned.checked.prog 8 Tryz.f8 Rows.interferePairsSpec Rows.interferePairsRow=true:=by
 unfold Go.joinedFacts;rw[w7a,K6a,T7a,m8a,W7a,s8a,E7a,Y7a,n8a,p8a]
 kernel_rfl
theorem g6a:Rows.InterferePairsSaid :=
 OpenClaim.holds_of_wide 8 Tryz.f8 Z Z Z Z Z Z Z ⟨Z,Z,Z,Z,Z⟩ Z Z Z Z Z (by kernel_rfl) func8 e6a
  (of_decide_eq_true (by kernel_rfl)) (by unfold Func.isWrapper;(rw[if_neg (by decide +kernel)];exact⟨Z,Z⟩))
  (fun os a0 H enc _=>y5a os a0 H enc)
end Go.Proofs.YtlegngbbcckmnaaGreatDoor
