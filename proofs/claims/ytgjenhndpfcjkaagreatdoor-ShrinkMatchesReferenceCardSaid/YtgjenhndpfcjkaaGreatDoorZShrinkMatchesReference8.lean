/-
  Part 8 of 9 of the proof of ShrinkMatchesReference: what it leans on. No conditions.
-/
import Derived.Test.YtgjenhndpfcjkaaGreatDoorZShrinkMatchesReference7
set_option maxRecDepth 100000
set_option maxHeartbeats 4000000
namespace Go.Proofs.YtgjenhndpfcjkaaGreatDoor
open Go.Fw Go.Proofs Go.RowKit Go.ChangeShapes Go.WideShapes Tryz
theorem F5a:Tryz.pinned.checked.prog.mayEnter=true:=by kernel_rfl
theorem q5a:(Rows.shrinkMatchesReferenceRow.lifted==Tryz.pinned.checked.prog.liftsFinal)=true:=by kernel_rfl
theorem h6a:(Rows.shrinkMatchesReferenceRow.inPlace==Tryz.pinned.checked.prog.inPlace 3)=true:=by kernel_rfl
theorem n6a:(Rows.shrinkMatchesReferenceRow.unfollowed==Tryz.pinned.checked.prog.unfollowed 3)=true:=by kernel_rfl
theorem d6a:(Rows.shrinkMatchesReferenceRow.recurses==Tryz.pinned.checked.prog.recurses 3)=true:=by kernel_rfl
theorem m6a:(Rows.shrinkMatchesReferenceRow.named==Tryz.pinned.checked.prog.varsNamed 3)=true:=by kernel_rfl
theorem f6a:Tryz.pinned.checked.prog.stopsHeard=true:=by kernel_rfl
theorem c6a:(Tryz.pinned.checked.prog.make==some Rows.shrinkMatchesReferenceRow.make)=true:=by kernel_rfl
theorem Q5a:mapsRowed Tryz.pinned.checked.prog=true:=by kernel_rfl
theorem Y5a:laidOutB Tryz.pinned.checked.prog=true:=by kernel_rfl
theorem b5a:Go.joinedFacts Tryz.pinned.checked.prog 3 Tryz.f3 Rows.shrinkMatchesReferenceSpec Rows.shrinkMatchesReferenceRow=true:=by
 unfold Go.joinedFacts;rw[F5a,q5a,h6a,n6a,d6a,m6a,f6a,c6a,Q5a,Y5a]
 kernel_rfl
theorem e5a:Rows.ShrinkMatchesReferenceSaid :=
 OpenClaim.holds_of_wide 3 Tryz.f3 Z Z Z Z Z Z Z ⟨Z,Z,Z,Z,Z⟩ Z Z Z Z Z (by kernel_rfl) func3 b5a
  (of_decide_eq_true (by kernel_rfl)) (by unfold Func.isWrapper;first|(rw[if_pos (by decide +kernel)];kernel_rfl)|(rw[if_neg (by decide +kernel)];exact⟨Z,Z⟩))
  (fun os a0 H enc _=>K4a os a0 H enc)
end Go.Proofs.YtgjenhndpfcjkaaGreatDoor
