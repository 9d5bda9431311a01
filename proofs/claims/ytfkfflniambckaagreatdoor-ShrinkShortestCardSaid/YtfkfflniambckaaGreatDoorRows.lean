/-
  NARROWER THAN 'FOR EVERY INPUT', by the rows' own cells (each row's printed sentence says how): ExploreClosure: loops, laid · ShrinkMatchesReference: loops, laid · ShrinkSubsequence: loops, laid · ShrinkMinimal: loops, laid · ShrinkShortest: loops, laid.
  DERIVED. THE GIVEN ROWS OF THIS SEAT. 5 by the template 'for every input the law returns true; each argument reads behind the call as it read before'; 0 by the template 'total and deterministic' (their statements: YtfkfflniambckaaGreatDoorTotals.lean).
  GIVEN WITH THE SEED: the statements are not yours to turn. If you find one false, say at which input.
  Laid BY PROGRAM, IN A SANDBOX (cutbox-rows.mjs): the forced cells as the released guide's own fill.sh prints them over the translation 89b4e2cffcc37ff9… (all of the seat's roots in one cut). By AI agents, Wed Nov 11 2026. No macro, syntax, notation, axiom, sorry.
-/
import Derived.Test.YtfkfflniambckaaGreatDoorChecked
import GoSem.Claim
import GoSem.ClaimJoined
import GoSem.ClaimMapViews
import Derived.JoinedTies
import Derived.KernelRfl
namespace Go.Proofs.YtfkfflniambckaaGreatDoor
/- THE CELL 'sum', in the pinned program and in every row, IS THE sha256 OF THE DUMP (.gsa) THAT YtfkfflniambckaaGreatDoorProg.lean LOADS. Nothing in Lean hashes anything: it is a label: what it is worth is what the hold of that sum in a sandbox is worth. -/
noncomputable def Tryz.pinned : Pinned := { name := "ytfkfflniambckaagreatdoor", sum := "89b4e2cffcc37ff9f61ed3c9e961bbaf37bdfe2c477dab1b569617f41549ceba", checked := Tryz.checked }
namespace Rows
def none {H : Type} : Left H := { results := [], args := [] }

/- WHAT THE LISTED PACKAGE-LEVEL VARIABLES READ AS WHEN THE CALL BEGINS. Each datum BY PROGRAM (the guide's laid-datum.mjs) off the statement by which the dump's own 'gosem.cut.vars' lays the variable. In a bare row this is a premise. The card (YtfkfflniambckaaGreatDoorCards.lean) ties it to the program's text. -/
def laid_relyguard_expr_masks {H : Type} : DataW H := .agg [.lit (.int .i64 0), .lit (.int .i64 1), .lit (.int .i64 3), .lit (.int .i64 7), .lit (.int .i64 15), .lit (.int .i64 31), .lit (.int .i64 63), .lit (.int .i64 127), .lit (.int .i64 255)]

/-- 'relyguardlaw14.ExploreClosure': WHATEVER THE INPUT: true; the input reads as it did. -/
def exploreClosureSpec : ChangeSpec := { name := "exploreClosure", fn := fun _ => fun
  | [d1, d2] => { results := [.lit (.bool true)], args := [d1, d2] }
  | _ => none }
def exploreClosureRow : OpenClaim := { program := "ytfkfflniambckaagreatdoor", sum := "89b4e2cffcc37ff9f61ed3c9e961bbaf37bdfe2c477dab1b569617f41549ceba", func := "relyguard/relyguardlaw14.ExploreClosure", spec := "exploreClosure", unfollowed := true, recurses := true, named := ["relyguard/expr.masks"], loops := true, apart := false, laid := [("relyguard/expr.masks", laid_relyguard_expr_masks)] }
def ExploreClosureSaid : Prop := exploreClosureRow.holds Tryz.pinned (OpenSpec.ofChange exploreClosureSpec)

/-- ITS FALSE NEIGHBOUR: 'it returns false'. Refute it at one input. -/
def exploreClosureWrong : ChangeSpec := { name := "exploreClosure", fn := fun _ => fun
  | [d1, d2] => { results := [.lit (.bool false)], args := [d1, d2] }
  | _ => none }
def ExploreClosureWrongFalsely : Prop := exploreClosureRow.holds Tryz.pinned (OpenSpec.ofChange exploreClosureWrong)

/-- 'relyguardlaw34.ShrinkMatchesReference': WHATEVER THE INPUT: true; the input reads as it did. -/
def shrinkMatchesReferenceSpec : ChangeSpec := { name := "shrinkMatchesReference", fn := fun _ => fun
  | [d1, d2, d3] => { results := [.lit (.bool true)], args := [d1, d2, d3] }
  | _ => none }
def shrinkMatchesReferenceRow : OpenClaim := { program := "ytfkfflniambckaagreatdoor", sum := "89b4e2cffcc37ff9f61ed3c9e961bbaf37bdfe2c477dab1b569617f41549ceba", func := "relyguard/relyguardlaw34.ShrinkMatchesReference", spec := "shrinkMatchesReference", unfollowed := true, recurses := true, named := ["relyguard/expr.masks"], loops := true, apart := false, laid := [("relyguard/expr.masks", laid_relyguard_expr_masks)] }
def ShrinkMatchesReferenceSaid : Prop := shrinkMatchesReferenceRow.holds Tryz.pinned (OpenSpec.ofChange shrinkMatchesReferenceSpec)

/-- ITS FALSE NEIGHBOUR: 'it returns false'. Refute it at one input. -/
def shrinkMatchesReferenceWrong : ChangeSpec := { name := "shrinkMatchesReference", fn := fun _ => fun
  | [d1, d2, d3] => { results := [.lit (.bool false)], args := [d1, d2, d3] }
  | _ => none }
def ShrinkMatchesReferenceWrongFalsely : Prop := shrinkMatchesReferenceRow.holds Tryz.pinned (OpenSpec.ofChange shrinkMatchesReferenceWrong)

/-- 'relyguardlaw34.ShrinkSubsequence': WHATEVER THE INPUT: true; the input reads as it did. -/
def shrinkSubsequenceSpec : ChangeSpec := { name := "shrinkSubsequence", fn := fun _ => fun
  | [d1, d2, d3] => { results := [.lit (.bool true)], args := [d1, d2, d3] }
  | _ => none }
def shrinkSubsequenceRow : OpenClaim := { program := "ytfkfflniambckaagreatdoor", sum := "89b4e2cffcc37ff9f61ed3c9e961bbaf37bdfe2c477dab1b569617f41549ceba", func := "relyguard/relyguardlaw34.ShrinkSubsequence", spec := "shrinkSubsequence", unfollowed := true, recurses := true, named := ["relyguard/expr.masks"], loops := true, apart := false, laid := [("relyguard/expr.masks", laid_relyguard_expr_masks)] }
def ShrinkSubsequenceSaid : Prop := shrinkSubsequenceRow.holds Tryz.pinned (OpenSpec.ofChange shrinkSubsequenceSpec)

/-- ITS FALSE NEIGHBOUR: 'it returns false'. Refute it at one input. -/
def shrinkSubsequenceWrong : ChangeSpec := { name := "shrinkSubsequence", fn := fun _ => fun
  | [d1, d2, d3] => { results := [.lit (.bool false)], args := [d1, d2, d3] }
  | _ => none }
def ShrinkSubsequenceWrongFalsely : Prop := shrinkSubsequenceRow.holds Tryz.pinned (OpenSpec.ofChange shrinkSubsequenceWrong)

/-- 'relyguardlaw34.ShrinkMinimal': WHATEVER THE INPUT: true; the input reads as it did. -/
def shrinkMinimalSpec : ChangeSpec := { name := "shrinkMinimal", fn := fun _ => fun
  | [d1, d2, d3] => { results := [.lit (.bool true)], args := [d1, d2, d3] }
  | _ => none }
def shrinkMinimalRow : OpenClaim := { program := "ytfkfflniambckaagreatdoor", sum := "89b4e2cffcc37ff9f61ed3c9e961bbaf37bdfe2c477dab1b569617f41549ceba", func := "relyguard/relyguardlaw34.ShrinkMinimal", spec := "shrinkMinimal", unfollowed := true, recurses := true, named := ["relyguard/expr.masks"], loops := true, apart := false, laid := [("relyguard/expr.masks", laid_relyguard_expr_masks)] }
def ShrinkMinimalSaid : Prop := shrinkMinimalRow.holds Tryz.pinned (OpenSpec.ofChange shrinkMinimalSpec)

/-- ITS FALSE NEIGHBOUR: 'it returns false'. Refute it at one input. -/
def shrinkMinimalWrong : ChangeSpec := { name := "shrinkMinimal", fn := fun _ => fun
  | [d1, d2, d3] => { results := [.lit (.bool false)], args := [d1, d2, d3] }
  | _ => none }
def ShrinkMinimalWrongFalsely : Prop := shrinkMinimalRow.holds Tryz.pinned (OpenSpec.ofChange shrinkMinimalWrong)

/-- 'relyguardlaw34.ShrinkShortest': WHATEVER THE INPUT: true; the input reads as it did. -/
def shrinkShortestSpec : ChangeSpec := { name := "shrinkShortest", fn := fun _ => fun
  | [d1, d2] => { results := [.lit (.bool true)], args := [d1, d2] }
  | _ => none }
def shrinkShortestRow : OpenClaim := { program := "ytfkfflniambckaagreatdoor", sum := "89b4e2cffcc37ff9f61ed3c9e961bbaf37bdfe2c477dab1b569617f41549ceba", func := "relyguard/relyguardlaw34.ShrinkShortest", spec := "shrinkShortest", unfollowed := true, recurses := true, named := ["relyguard/expr.masks"], loops := true, apart := false, laid := [("relyguard/expr.masks", laid_relyguard_expr_masks)] }
def ShrinkShortestSaid : Prop := shrinkShortestRow.holds Tryz.pinned (OpenSpec.ofChange shrinkShortestSpec)

/-- ITS FALSE NEIGHBOUR: 'it returns false'. Refute it at one input. -/
def shrinkShortestWrong : ChangeSpec := { name := "shrinkShortest", fn := fun _ => fun
  | [d1, d2] => { results := [.lit (.bool false)], args := [d1, d2] }
  | _ => none }
def ShrinkShortestWrongFalsely : Prop := shrinkShortestRow.holds Tryz.pinned (OpenSpec.ofChange shrinkShortestWrong)

/- THE SECOND FORM. 'bulk': how many values and letters a reading holds, each counted each time it is reached (what is shared counts as often as it is met; a slice's spare places count too). A statement '..UptoSaid' is the law's where the arguments, and the package variables that the reading takes, are together of bulk at most 1048576: NARROWER than '..Said'. Prove '..Said' where nothing that the law and all that it calls make is longer than what came in: it says more and counts as full. Else prove '..UptoSaid'. A law counts once. -/
mutual
def uptoBulk {H : Type} : DataW H → Nat
  | .lit (.string bytes) => bytes.length + 1
  | .lit _ => 1
  | .nil => 1
  | .ptr d => uptoBulk d + 1
  | .slice elems spare => uptoBulkAll elems + uptoBulkAll spare + 1
  | .agg parts => uptoBulkAll parts + 1
  | .iface _ d => uptoBulk d + 1
  | .map entries => uptoBulkEntries entries + 1
  | .held _ => 1
def uptoBulkAll {H : Type} : List (DataW H) → Nat
  | [] => 0
  | d :: r => uptoBulk d + uptoBulkAll r
def uptoBulkEntries {H : Type} : List (Lit × DataW H) → Nat
  | [] => 0
  | x :: r => uptoBulkEntry x + uptoBulkEntries r
def uptoBulkEntry {H : Type} : Lit × DataW H → Nat
  | (.string bytes, d) => bytes.length + uptoBulk d + 1
  | (_, d) => uptoBulk d + 1
 end
def uptoSmall : (H : Type) → List (DataW H) → Bool := fun _ ds => decide (uptoBulkAll ds ≤ 1048576)
def OpenSpec.upto (s : _root_.Go.ChangeSpec) : _root_.Go.OpenSpec := { _root_.Go.OpenSpec.ofChange s with cond := some uptoSmall }

/-- 'relyguardlaw14.ExploreClosure', WHERE WHAT IT READS IS OF BULK AT MOST 1048576: true; the input reads as it did. -/
def exploreClosureUptoRow : OpenClaim := { program := "ytfkfflniambckaagreatdoor", sum := "89b4e2cffcc37ff9f61ed3c9e961bbaf37bdfe2c477dab1b569617f41549ceba", func := "relyguard/relyguardlaw14.ExploreClosure", spec := "exploreClosure", unfollowed := true, recurses := true, named := ["relyguard/expr.masks"], loops := true, apart := false, laid := [("relyguard/expr.masks", laid_relyguard_expr_masks)], narrowed := true }
def ExploreClosureUptoSaid : Prop := exploreClosureUptoRow.holds Tryz.pinned (OpenSpec.upto exploreClosureSpec)

/-- 'relyguardlaw34.ShrinkMatchesReference', WHERE WHAT IT READS IS OF BULK AT MOST 1048576: true; the input reads as it did. -/
def shrinkMatchesReferenceUptoRow : OpenClaim := { program := "ytfkfflniambckaagreatdoor", sum := "89b4e2cffcc37ff9f61ed3c9e961bbaf37bdfe2c477dab1b569617f41549ceba", func := "relyguard/relyguardlaw34.ShrinkMatchesReference", spec := "shrinkMatchesReference", unfollowed := true, recurses := true, named := ["relyguard/expr.masks"], loops := true, apart := false, laid := [("relyguard/expr.masks", laid_relyguard_expr_masks)], narrowed := true }
def ShrinkMatchesReferenceUptoSaid : Prop := shrinkMatchesReferenceUptoRow.holds Tryz.pinned (OpenSpec.upto shrinkMatchesReferenceSpec)

/-- 'relyguardlaw34.ShrinkSubsequence', WHERE WHAT IT READS IS OF BULK AT MOST 1048576: true; the input reads as it did. -/
def shrinkSubsequenceUptoRow : OpenClaim := { program := "ytfkfflniambckaagreatdoor", sum := "89b4e2cffcc37ff9f61ed3c9e961bbaf37bdfe2c477dab1b569617f41549ceba", func := "relyguard/relyguardlaw34.ShrinkSubsequence", spec := "shrinkSubsequence", unfollowed := true, recurses := true, named := ["relyguard/expr.masks"], loops := true, apart := false, laid := [("relyguard/expr.masks", laid_relyguard_expr_masks)], narrowed := true }
def ShrinkSubsequenceUptoSaid : Prop := shrinkSubsequenceUptoRow.holds Tryz.pinned (OpenSpec.upto shrinkSubsequenceSpec)

/-- 'relyguardlaw34.ShrinkMinimal', WHERE WHAT IT READS IS OF BULK AT MOST 1048576: true; the input reads as it did. -/
def shrinkMinimalUptoRow : OpenClaim := { program := "ytfkfflniambckaagreatdoor", sum := "89b4e2cffcc37ff9f61ed3c9e961bbaf37bdfe2c477dab1b569617f41549ceba", func := "relyguard/relyguardlaw34.ShrinkMinimal", spec := "shrinkMinimal", unfollowed := true, recurses := true, named := ["relyguard/expr.masks"], loops := true, apart := false, laid := [("relyguard/expr.masks", laid_relyguard_expr_masks)], narrowed := true }
def ShrinkMinimalUptoSaid : Prop := shrinkMinimalUptoRow.holds Tryz.pinned (OpenSpec.upto shrinkMinimalSpec)

/-- 'relyguardlaw34.ShrinkShortest', WHERE WHAT IT READS IS OF BULK AT MOST 1048576: true; the input reads as it did. -/
def shrinkShortestUptoRow : OpenClaim := { program := "ytfkfflniambckaagreatdoor", sum := "89b4e2cffcc37ff9f61ed3c9e961bbaf37bdfe2c477dab1b569617f41549ceba", func := "relyguard/relyguardlaw34.ShrinkShortest", spec := "shrinkShortest", unfollowed := true, recurses := true, named := ["relyguard/expr.masks"], loops := true, apart := false, laid := [("relyguard/expr.masks", laid_relyguard_expr_masks)], narrowed := true }
def ShrinkShortestUptoSaid : Prop := shrinkShortestUptoRow.holds Tryz.pinned (OpenSpec.upto shrinkShortestSpec)

end Rows
end Go.Proofs.YtfkfflniambckaaGreatDoor
