/-
  Part 7 of 8 of the proof of InterfereOrder: what it leans on. No conditions.
-/
import Derived.Test.YtlegngbbcckmnaaGreatDoorZInterfereOrder6
set_option maxRecDepth 100000
set_option maxHeartbeats 4000000
namespace Go.Proofs.YtlegngbbcckmnaaGreatDoor
open Go.Fw Go.Proofs Go.RowKit Go.ChangeShapes Go.WideShapes Tryz
theorem b7a:Tryz.pinned.checked.prog.mayEnter=true:=by kernel_rfl
theorem D6a:(Rows.interfereOrderRow.lifted==Tryz.pinned.checked.prog.liftsFinal)=true:=by kernel_rfl
theorem a8a:(Rows.interfereOrderRow.inPlace==Tryz.pinned.checked.prog.inPlace 6)=true:=by kernel_rfl
theorem n8a:(Rows.interfereOrderRow.unfollowed==Tryz.pinned.checked.prog.unfollowed 6)=true:=by kernel_rfl
theorem E7a:(Rows.interfereOrderRow.recurses==Tryz.pinned.checked.prog.recurses 6)=true:=by kernel_rfl
theorem P7a:(Rows.interfereOrderRow.named==Tryz.pinned.checked.prog.varsNamed 6)=true:=by kernel_rfl
theorem D7a:Tryz.pinned.checked.prog.stopsHeard=true:=by kernel_rfl
theorem m8a:(Tryz.pinned.checked.prog.make==some Rows.interfereOrderRow.make)=true:=by kernel_rfl
theorem O7a:mapsRowed Tryz.pinned.checked.prog=true:=by kernel_rfl
theorem q8a:laidOutB Tryz.pinned.checked.prog=true:=by kernel_rfl
theorem m6a:Go.joinedFacts Tryz.pinned.checked.prog 6 Tryz.f6 Rows.interfereOrderSpec Rows.interfereOrderRow=true:=by
 unfold Go.joinedFacts;rw[b7a,D6a,a8a,n8a,E7a,P7a,D7a,m8a,O7a,q8a]
 kernel_rfl
theorem k6a:Rows.InterfereOrderSaid :=
 OpenClaim.holds_of_wide 6 Tryz.f6 Z Z Z Z Z Z Z ⟨Z,Z,Z,Z,Z⟩ Z Z Z Z Z (by kernel_rfl) func6 m6a
  (of_decide_eq_true (by kernel_rfl)) (by unfold Func.isWrapper;(rw[if_neg (by decide +kernel)];exact⟨Z,Z⟩))
  (fun os a0 H enc _=>y5a os a0 H enc)
end Go.Proofs.YtlegngbbcckmnaaGreatDoor
