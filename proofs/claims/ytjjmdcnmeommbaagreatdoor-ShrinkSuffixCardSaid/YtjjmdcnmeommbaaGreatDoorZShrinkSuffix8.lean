/-
  Part 8 of 8 of a proof: ShrinkSuffix of package relyguardlaw33 returns true for every input, and its arguments read as before.
  Conditions: those of the given row (the listed package variables as the program's text lays them).
-/
import Derived.Test.YtjjmdcnmeommbaaGreatDoorZShrinkSuffix7
set_option maxRecDepth 100000
namespace Go.Proofs.YtjjmdcnmeommbaaGreatDoor
open Go.Fw Go.RowKit Go.ChangeShapes Go.WideShapes
theorem shrinkSuffix_card : Rows.ShrinkSuffixCardSaid :=
 Claim7.holds_tied_plain_at .later [] [.data] true Rows.shrinkSuffixCard.stood.harness false
  r7a (fun _ h => by cases h) (by kernel_rfl) (fun _ h => by cases h) shrinkSuffix_row_tie rfl ⟨rfl, rfl⟩ (by kernel_rfl) rfl
  (fun f fn hf hfn => by
    obtain rfl : f = 11 := Option.some.inj ((show Tryz.prog.funcNamed Rows.shrinkSuffixRow.func = some 11 by kernel_rfl).symm.trans hf) |>.symm
    obtain rfl : fn = Tryz.f11 := (Option.some.inj (Tryz.func11.symm.trans hfn)).symm
    exact ⟨by kernel_rfl, fun j t ht => by
     rw [Tryz.params11] at ht
     have hm : t ∈ [27, 5, 28, 28] := by simpa using Array.mem_of_getElem? ht
     have hall : ([27, 5, 28, 28].all fun u => !Tryz.prog.wantsStandIn u) = true := by kernel_rfl
     exact (show Tryz.prog.wantsStandIn t = false by simpa using List.all_eq_true.1 hall t hm)⟩)
  (by kernel_rfl)
#print axioms shrinkSuffix_card
end Go.Proofs.YtjjmdcnmeommbaaGreatDoor
