/-
  Part 8 of 9 of the proof of InterfereMatchesReference: what it leans on. No conditions.
-/
import Derived.Test.YtlegngbbcckmnaaGreatDoorZInterfereMatchesReference7
set_option maxRecDepth 100000
set_option maxHeartbeats 4000000
namespace Go.Proofs.YtlegngbbcckmnaaGreatDoor
open Go.Fw Go.Proofs Go.RowKit Go.ChangeShapes Go.WideShapes Tryz
theorem d4a:Tryz.pinned.checked.prog.mayEnter=true:=by kernel_rfl
theorem K3a:(Rows.interfereMatchesReferenceRow.lifted==Tryz.pinned.checked.prog.liftsFinal)=true:=by kernel_rfl
theorem w4a:(Rows.interfereMatchesReferenceRow.inPlace==Tryz.pinned.checked.prog.inPlace 3)=true:=by kernel_rfl
theorem t4a:(Rows.interfereMatchesReferenceRow.unfollowed==Tryz.pinned.checked.prog.unfollowed 3)=true:=by kernel_rfl
theorem y4a:(Rows.interfereMatchesReferenceRow.recurses==Tryz.pinned.checked.prog.recurses 3)=true:=by kernel_rfl
theorem z4a:(Rows.interfereMatchesReferenceRow.named==Tryz.pinned.checked.prog.varsNamed 3)=true:=by kernel_rfl
theorem u4a:Tryz.pinned.checked.prog.stopsHeard=true:=by kernel_rfl
theorem E4a:(Tryz.pinned.checked.prog.make==some Rows.interfereMatchesReferenceRow.make)=true:=by kernel_rfl
theorem F4a:mapsRowed Tryz.pinned.checked.prog=true:=by kernel_rfl
theorem q4a:laidOutB Tryz.pinned.checked.prog=true:=by kernel_rfl
theorem A3a:Go.joinedFacts Tryz.pinned.checked.prog 3 Tryz.f3 Rows.interfereMatchesReferenceSpec Rows.interfereMatchesReferenceRow=true:=by
 unfold Go.joinedFacts;rw[d4a,K3a,w4a,t4a,y4a,z4a,u4a,E4a,F4a,q4a]
 kernel_rfl
theorem B3a:Rows.InterfereMatchesReferenceSaid :=
 OpenClaim.holds_of_wide 3 Tryz.f3 Z Z Z Z Z Z Z ⟨Z,Z,Z,Z,Z⟩ Z Z Z Z Z (by kernel_rfl) func3 A3a
  (of_decide_eq_true (by kernel_rfl)) (by unfold Func.isWrapper;(rw[if_neg (by decide +kernel)];exact⟨Z,Z⟩))
  (fun os a0 H enc _=>t3a os a0 H enc)
end Go.Proofs.YtlegngbbcckmnaaGreatDoor
