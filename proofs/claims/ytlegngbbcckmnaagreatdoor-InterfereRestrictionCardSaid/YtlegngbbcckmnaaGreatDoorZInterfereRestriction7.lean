/-
  Part 7 of 8 of the proof of InterfereRestriction: what it leans on. No conditions.
-/
import Derived.Test.YtlegngbbcckmnaaGreatDoorZInterfereRestriction6
set_option maxRecDepth 100000
set_option maxHeartbeats 4000000
namespace Go.Proofs.YtlegngbbcckmnaaGreatDoor
open Go.Fw Go.Proofs Go.RowKit Go.ChangeShapes Go.WideShapes Tryz
theorem Q4a:Tryz.pinned.checked.prog.mayEnter=true:=by kernel_rfl
theorem z4a:(Rows.interfereRestrictionRow.lifted==Tryz.pinned.checked.prog.liftsFinal)=true:=by kernel_rfl
theorem a5a:(Rows.interfereRestrictionRow.inPlace==Tryz.pinned.checked.prog.inPlace 9)=true:=by kernel_rfl
theorem w5a:(Rows.interfereRestrictionRow.unfollowed==Tryz.pinned.checked.prog.unfollowed 9)=true:=by kernel_rfl
theorem j5a:(Rows.interfereRestrictionRow.recurses==Tryz.pinned.checked.prog.recurses 9)=true:=by kernel_rfl
theorem i5a:(Rows.interfereRestrictionRow.named==Tryz.pinned.checked.prog.varsNamed 9)=true:=by kernel_rfl
theorem u5a:Tryz.pinned.checked.prog.stopsHeard=true:=by kernel_rfl
theorem y5a:(Tryz.pinned.checked.prog.make==some Rows.interfereRestrictionRow.make)=true:=by kernel_rfl
theorem q5a:mapsRowed Tryz.pinned.checked.prog=true:=by kernel_rfl
theorem m5a:laidOutB Tryz.pinned.checked.prog=true:=by kernel_rfl
theorem q4a:Go.joinedFacts Tryz.pinned.checked.prog 9 Tryz.f9 Rows.interfereRestrictionSpec Rows.interfereRestrictionRow=true:=by
 unfold Go.joinedFacts;rw[Q4a,z4a,a5a,w5a,j5a,i5a,u5a,y5a,q5a,m5a]
 kernel_rfl
theorem p4a:Rows.InterfereRestrictionSaid :=
 OpenClaim.holds_of_wide 9 Tryz.f9 Z Z Z Z Z Z Z ⟨Z,Z,Z,Z,Z⟩ Z Z Z Z Z (by kernel_rfl) func9 q4a
  (of_decide_eq_true (by kernel_rfl)) (by unfold Func.isWrapper;(rw[if_neg (by decide +kernel)];exact⟨Z,Z⟩))
  (fun os a0 H enc _=>h4a os a0 H enc)
end Go.Proofs.YtlegngbbcckmnaaGreatDoor
