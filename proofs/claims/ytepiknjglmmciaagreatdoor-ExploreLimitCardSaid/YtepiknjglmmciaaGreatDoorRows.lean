/-
  NARROWER THAN 'FOR EVERY INPUT', by the rows' own cells (each row's printed sentence says how): ExploreClosure: loops, laid · ExploreModels: loops, laid · ExploreLimit: loops, laid.
  DERIVED. THE GIVEN ROWS OF THIS SEAT. 3 by the template 'for every input the law returns true; each argument reads behind the call as it read before'; 0 by the template 'total and deterministic' (their statements: YtepiknjglmmciaaGreatDoorTotals.lean).
  GIVEN WITH THE SEED: the statements are not yours to turn. If you find one false, say at which input.
  Laid BY PROGRAM, IN A SANDBOX (cutbox-rows.mjs): the forced cells as the released guide's own fill.sh prints them over the translation f568d12efd5f6e95… (all of the seat's roots in one cut). By AI agents, Wed Nov 11 2026. No macro, syntax, notation, axiom, sorry.
-/
import Derived.Test.YtepiknjglmmciaaGreatDoorChecked
import GoSem.Claim
import GoSem.ClaimJoined
import GoSem.ClaimMapViews
import Derived.JoinedTies
import Derived.KernelRfl
namespace Go.Proofs.YtepiknjglmmciaaGreatDoor
/- THE CELL 'sum', in the pinned program and in every row, IS THE sha256 OF THE DUMP (.gsa) THAT YtepiknjglmmciaaGreatDoorProg.lean LOADS. Nothing in Lean hashes anything: it is a label: what it is worth is what the hold of that sum in a sandbox is worth. -/
noncomputable def Tryz.pinned : Pinned := { name := "ytepiknjglmmciaagreatdoor", sum := "f568d12efd5f6e955108ad5fd46c56d56399c9eec0c3e050385ebe107d46072f", checked := Tryz.checked }
namespace Rows
def none {H : Type} : Left H := { results := [], args := [] }

/- WHAT THE LISTED PACKAGE-LEVEL VARIABLES READ AS WHEN THE CALL BEGINS. Each datum BY PROGRAM (the guide's laid-datum.mjs) off the statement by which the dump's own 'gosem.cut.vars' lays the variable. In a bare row this is a premise. The card (YtepiknjglmmciaaGreatDoorCards.lean) ties it to the program's text. -/
def laid_relyguard_expr_masks {H : Type} : DataW H := .agg [.lit (.int .i64 0), .lit (.int .i64 1), .lit (.int .i64 3), .lit (.int .i64 7), .lit (.int .i64 15), .lit (.int .i64 31), .lit (.int .i64 63), .lit (.int .i64 127), .lit (.int .i64 255)]

/-- 'relyguardlaw14.ExploreClosure': WHATEVER THE INPUT: true; the input reads as it did. -/
def exploreClosureSpec : ChangeSpec := { name := "exploreClosure", fn := fun _ => fun
  | [d1, d2] => { results := [.lit (.bool true)], args := [d1, d2] }
  | _ => none }
def exploreClosureRow : OpenClaim := { program := "ytepiknjglmmciaagreatdoor", sum := "f568d12efd5f6e955108ad5fd46c56d56399c9eec0c3e050385ebe107d46072f", func := "relyguard/relyguardlaw14.ExploreClosure", spec := "exploreClosure", unfollowed := true, recurses := true, named := ["relyguard/expr.masks"], loops := true, apart := false, laid := [("relyguard/expr.masks", laid_relyguard_expr_masks)] }
def ExploreClosureSaid : Prop := exploreClosureRow.holds Tryz.pinned (OpenSpec.ofChange exploreClosureSpec)

/-- ITS FALSE NEIGHBOUR: 'it returns false'. Refute it at one input. -/
def exploreClosureWrong : ChangeSpec := { name := "exploreClosure", fn := fun _ => fun
  | [d1, d2] => { results := [.lit (.bool false)], args := [d1, d2] }
  | _ => none }
def ExploreClosureWrongFalsely : Prop := exploreClosureRow.holds Tryz.pinned (OpenSpec.ofChange exploreClosureWrong)

/-- 'relyguardlaw14.ExploreModels': WHATEVER THE INPUT: true; the input reads as it did. -/
def exploreModelsSpec : ChangeSpec := { name := "exploreModels", fn := fun _ => fun
  | [d] => { results := [.lit (.bool true)], args := [d] }
  | _ => none }
def exploreModelsRow : OpenClaim := { program := "ytepiknjglmmciaagreatdoor", sum := "f568d12efd5f6e955108ad5fd46c56d56399c9eec0c3e050385ebe107d46072f", func := "relyguard/relyguardlaw14.ExploreModels", spec := "exploreModels", unfollowed := true, recurses := true, named := ["relyguard/expr.masks"], loops := true, apart := false, laid := [("relyguard/expr.masks", laid_relyguard_expr_masks)] }
def ExploreModelsSaid : Prop := exploreModelsRow.holds Tryz.pinned (OpenSpec.ofChange exploreModelsSpec)

/-- ITS FALSE NEIGHBOUR: 'it returns false'. Refute it at one input. -/
def exploreModelsWrong : ChangeSpec := { name := "exploreModels", fn := fun _ => fun
  | [d] => { results := [.lit (.bool false)], args := [d] }
  | _ => none }
def ExploreModelsWrongFalsely : Prop := exploreModelsRow.holds Tryz.pinned (OpenSpec.ofChange exploreModelsWrong)

/-- 'relyguardlaw14.ExploreLimit': WHATEVER THE INPUT: true; the input reads as it did. -/
def exploreLimitSpec : ChangeSpec := { name := "exploreLimit", fn := fun _ => fun
  | [d1, d2, d3, d4, d5] => { results := [.lit (.bool true)], args := [d1, d2, d3, d4, d5] }
  | _ => none }
def exploreLimitRow : OpenClaim := { program := "ytepiknjglmmciaagreatdoor", sum := "f568d12efd5f6e955108ad5fd46c56d56399c9eec0c3e050385ebe107d46072f", func := "relyguard/relyguardlaw14.ExploreLimit", spec := "exploreLimit", unfollowed := true, recurses := true, named := ["relyguard/expr.masks"], loops := true, apart := false, laid := [("relyguard/expr.masks", laid_relyguard_expr_masks)] }
def ExploreLimitSaid : Prop := exploreLimitRow.holds Tryz.pinned (OpenSpec.ofChange exploreLimitSpec)

/-- ITS FALSE NEIGHBOUR: 'it returns false'. Refute it at one input. -/
def exploreLimitWrong : ChangeSpec := { name := "exploreLimit", fn := fun _ => fun
  | [d1, d2, d3, d4, d5] => { results := [.lit (.bool false)], args := [d1, d2, d3, d4, d5] }
  | _ => none }
def ExploreLimitWrongFalsely : Prop := exploreLimitRow.holds Tryz.pinned (OpenSpec.ofChange exploreLimitWrong)

/- THE SECOND FORM. 'bulk': how many values and letters a reading holds, each counted each time it is reached (what is shared counts as often as it is met; a slice's spare places count too). A statement '..UptoSaid' is the law's where the arguments, and the package variables that the reading takes, are together of bulk at most 1048576: NARROWER than '..Said'. Prove '..Said' where nothing that the law and all that it calls make is longer than what came in: it says more and counts as full. Else prove '..UptoSaid'. A law counts once. -/
mutual
def uptoBulk {H : Type} : DataW H → Nat
  | .lit (.string bytes) => bytes.length + 1
  | .lit _ => 1
  | .nil => 1
  | .ptr d => uptoBulk d + 1
  | .slice elems spare => uptoBulkAll elems + uptoBulkAll spare + 1
  | .agg parts => uptoBulkAll parts + 1
  | .iface _ d => uptoBulk d + 1
  | .map entries => uptoBulkEntries entries + 1
  | .held _ => 1
def uptoBulkAll {H : Type} : List (DataW H) → Nat
  | [] => 0
  | d :: r => uptoBulk d + uptoBulkAll r
def uptoBulkEntries {H : Type} : List (Lit × DataW H) → Nat
  | [] => 0
  | x :: r => uptoBulkEntry x + uptoBulkEntries r
def uptoBulkEntry {H : Type} : Lit × DataW H → Nat
  | (.string bytes, d) => bytes.length + uptoBulk d + 1
  | (_, d) => uptoBulk d + 1
 end
def uptoSmall : (H : Type) → List (DataW H) → Bool := fun _ ds => decide (uptoBulkAll ds ≤ 1048576)
def OpenSpec.upto (s : _root_.Go.ChangeSpec) : _root_.Go.OpenSpec := { _root_.Go.OpenSpec.ofChange s with cond := some uptoSmall }

/-- 'relyguardlaw14.ExploreClosure', WHERE WHAT IT READS IS OF BULK AT MOST 1048576: true; the input reads as it did. -/
def exploreClosureUptoRow : OpenClaim := { program := "ytepiknjglmmciaagreatdoor", sum := "f568d12efd5f6e955108ad5fd46c56d56399c9eec0c3e050385ebe107d46072f", func := "relyguard/relyguardlaw14.ExploreClosure", spec := "exploreClosure", unfollowed := true, recurses := true, named := ["relyguard/expr.masks"], loops := true, apart := false, laid := [("relyguard/expr.masks", laid_relyguard_expr_masks)], narrowed := true }
def ExploreClosureUptoSaid : Prop := exploreClosureUptoRow.holds Tryz.pinned (OpenSpec.upto exploreClosureSpec)

/-- 'relyguardlaw14.ExploreModels', WHERE WHAT IT READS IS OF BULK AT MOST 1048576: true; the input reads as it did. -/
def exploreModelsUptoRow : OpenClaim := { program := "ytepiknjglmmciaagreatdoor", sum := "f568d12efd5f6e955108ad5fd46c56d56399c9eec0c3e050385ebe107d46072f", func := "relyguard/relyguardlaw14.ExploreModels", spec := "exploreModels", unfollowed := true, recurses := true, named := ["relyguard/expr.masks"], loops := true, apart := false, laid := [("relyguard/expr.masks", laid_relyguard_expr_masks)], narrowed := true }
def ExploreModelsUptoSaid : Prop := exploreModelsUptoRow.holds Tryz.pinned (OpenSpec.upto exploreModelsSpec)

/-- 'relyguardlaw14.ExploreLimit', WHERE WHAT IT READS IS OF BULK AT MOST 1048576: true; the input reads as it did. -/
def exploreLimitUptoRow : OpenClaim := { program := "ytepiknjglmmciaagreatdoor", sum := "f568d12efd5f6e955108ad5fd46c56d56399c9eec0c3e050385ebe107d46072f", func := "relyguard/relyguardlaw14.ExploreLimit", spec := "exploreLimit", unfollowed := true, recurses := true, named := ["relyguard/expr.masks"], loops := true, apart := false, laid := [("relyguard/expr.masks", laid_relyguard_expr_masks)], narrowed := true }
def ExploreLimitUptoSaid : Prop := exploreLimitUptoRow.holds Tryz.pinned (OpenSpec.upto exploreLimitSpec)

end Rows
end Go.Proofs.YtepiknjglmmciaaGreatDoor
