/-
  NARROWER THAN 'FOR EVERY INPUT', by the rows' own cells (each row's printed sentence says how): MonitorPrefixes: loops, laid · MonitorBlame: loops, laid · MonitorOrder: loops, laid · MonitorAssertions: loops, laid · MonitorWeak: loops, laid · ShrinkMatchesReference: loops, laid · ShrinkSubsequence: loops, laid · ShrinkMinimal: loops, laid · ShrinkSuffix: loops, laid · ShrinkShortest: loops, laid.
  DERIVED. THE GIVEN ROWS OF THIS SEAT. 10 by the template 'for every input the law returns true; each argument reads behind the call as it read before'; 0 by the template 'total and deterministic' (their statements: YtjjmdcnmeommbaaGreatDoorTotals.lean).
  GIVEN WITH THE SEED: the statements are not yours to turn. If you find one false, say at which input.
  Laid BY PROGRAM, IN A SANDBOX (cutbox-rows.mjs): the forced cells as the released guide's own fill.sh prints them over the translation a1671e429e364153… (all of the seat's roots in one cut). By AI agents, Wed Nov 11 2026. No macro, syntax, notation, axiom, sorry.
-/
import Derived.Test.YtjjmdcnmeommbaaGreatDoorChecked
import GoSem.Claim
import GoSem.ClaimJoined
import GoSem.ClaimMapViews
import Derived.JoinedTies
import Derived.KernelRfl
namespace Go.Proofs.YtjjmdcnmeommbaaGreatDoor
/- THE CELL 'sum', in the pinned program and in every row, IS THE sha256 OF THE DUMP (.gsa) THAT YtjjmdcnmeommbaaGreatDoorProg.lean LOADS. Nothing in Lean hashes anything: it is a label: what it is worth is what the hold of that sum in a sandbox is worth. -/
noncomputable def Tryz.pinned : Pinned := { name := "ytjjmdcnmeommbaagreatdoor", sum := "a1671e429e3641535bfbd8da098b7c3e504ad5a7910f412bc68eb038c6ece47b", checked := Tryz.checked }
namespace Rows
def none {H : Type} : Left H := { results := [], args := [] }

/- WHAT THE LISTED PACKAGE-LEVEL VARIABLES READ AS WHEN THE CALL BEGINS. Each datum BY PROGRAM (the guide's laid-datum.mjs) off the statement by which the dump's own 'gosem.cut.vars' lays the variable. In a bare row this is a premise. The card (YtjjmdcnmeommbaaGreatDoorCards.lean) ties it to the program's text. -/
def laid_relyguard_expr_masks {H : Type} : DataW H := .agg [.lit (.int .i64 0), .lit (.int .i64 1), .lit (.int .i64 3), .lit (.int .i64 7), .lit (.int .i64 15), .lit (.int .i64 31), .lit (.int .i64 63), .lit (.int .i64 127), .lit (.int .i64 255)]

/-- 'relyguardlaw33.MonitorPrefixes': WHATEVER THE INPUT: true; the input reads as it did. -/
def monitorPrefixesSpec : ChangeSpec := { name := "monitorPrefixes", fn := fun _ => fun
  | [d1, d2, d3, d4] => { results := [.lit (.bool true)], args := [d1, d2, d3, d4] }
  | _ => none }
def monitorPrefixesRow : OpenClaim := { program := "ytjjmdcnmeommbaagreatdoor", sum := "a1671e429e3641535bfbd8da098b7c3e504ad5a7910f412bc68eb038c6ece47b", func := "relyguard/relyguardlaw33.MonitorPrefixes", spec := "monitorPrefixes", unfollowed := true, recurses := true, named := ["relyguard/expr.masks"], loops := true, apart := false, laid := [("relyguard/expr.masks", laid_relyguard_expr_masks)] }
def MonitorPrefixesSaid : Prop := monitorPrefixesRow.holds Tryz.pinned (OpenSpec.ofChange monitorPrefixesSpec)

/-- ITS FALSE NEIGHBOUR: 'it returns false'. Refute it at one input. -/
def monitorPrefixesWrong : ChangeSpec := { name := "monitorPrefixes", fn := fun _ => fun
  | [d1, d2, d3, d4] => { results := [.lit (.bool false)], args := [d1, d2, d3, d4] }
  | _ => none }
def MonitorPrefixesWrongFalsely : Prop := monitorPrefixesRow.holds Tryz.pinned (OpenSpec.ofChange monitorPrefixesWrong)

/-- 'relyguardlaw33.MonitorBlame': WHATEVER THE INPUT: true; the input reads as it did. -/
def monitorBlameSpec : ChangeSpec := { name := "monitorBlame", fn := fun _ => fun
  | [d1, d2, d3] => { results := [.lit (.bool true)], args := [d1, d2, d3] }
  | _ => none }
def monitorBlameRow : OpenClaim := { program := "ytjjmdcnmeommbaagreatdoor", sum := "a1671e429e3641535bfbd8da098b7c3e504ad5a7910f412bc68eb038c6ece47b", func := "relyguard/relyguardlaw33.MonitorBlame", spec := "monitorBlame", unfollowed := true, recurses := true, named := ["relyguard/expr.masks"], loops := true, apart := false, laid := [("relyguard/expr.masks", laid_relyguard_expr_masks)] }
def MonitorBlameSaid : Prop := monitorBlameRow.holds Tryz.pinned (OpenSpec.ofChange monitorBlameSpec)

/-- ITS FALSE NEIGHBOUR: 'it returns false'. Refute it at one input. -/
def monitorBlameWrong : ChangeSpec := { name := "monitorBlame", fn := fun _ => fun
  | [d1, d2, d3] => { results := [.lit (.bool false)], args := [d1, d2, d3] }
  | _ => none }
def MonitorBlameWrongFalsely : Prop := monitorBlameRow.holds Tryz.pinned (OpenSpec.ofChange monitorBlameWrong)

/-- 'relyguardlaw33.MonitorOrder': WHATEVER THE INPUT: true; the input reads as it did. -/
def monitorOrderSpec : ChangeSpec := { name := "monitorOrder", fn := fun _ => fun
  | [d1, d2, d3] => { results := [.lit (.bool true)], args := [d1, d2, d3] }
  | _ => none }
def monitorOrderRow : OpenClaim := { program := "ytjjmdcnmeommbaagreatdoor", sum := "a1671e429e3641535bfbd8da098b7c3e504ad5a7910f412bc68eb038c6ece47b", func := "relyguard/relyguardlaw33.MonitorOrder", spec := "monitorOrder", unfollowed := true, recurses := true, named := ["relyguard/expr.masks"], loops := true, apart := false, laid := [("relyguard/expr.masks", laid_relyguard_expr_masks)] }
def MonitorOrderSaid : Prop := monitorOrderRow.holds Tryz.pinned (OpenSpec.ofChange monitorOrderSpec)

/-- ITS FALSE NEIGHBOUR: 'it returns false'. Refute it at one input. -/
def monitorOrderWrong : ChangeSpec := { name := "monitorOrder", fn := fun _ => fun
  | [d1, d2, d3] => { results := [.lit (.bool false)], args := [d1, d2, d3] }
  | _ => none }
def MonitorOrderWrongFalsely : Prop := monitorOrderRow.holds Tryz.pinned (OpenSpec.ofChange monitorOrderWrong)

/-- 'relyguardlaw33.MonitorAssertions': WHATEVER THE INPUT: true; the input reads as it did. -/
def monitorAssertionsSpec : ChangeSpec := { name := "monitorAssertions", fn := fun _ => fun
  | [d1, d2] => { results := [.lit (.bool true)], args := [d1, d2] }
  | _ => none }
def monitorAssertionsRow : OpenClaim := { program := "ytjjmdcnmeommbaagreatdoor", sum := "a1671e429e3641535bfbd8da098b7c3e504ad5a7910f412bc68eb038c6ece47b", func := "relyguard/relyguardlaw33.MonitorAssertions", spec := "monitorAssertions", unfollowed := true, recurses := true, named := ["relyguard/expr.masks"], loops := true, apart := false, laid := [("relyguard/expr.masks", laid_relyguard_expr_masks)] }
def MonitorAssertionsSaid : Prop := monitorAssertionsRow.holds Tryz.pinned (OpenSpec.ofChange monitorAssertionsSpec)

/-- ITS FALSE NEIGHBOUR: 'it returns false'. Refute it at one input. -/
def monitorAssertionsWrong : ChangeSpec := { name := "monitorAssertions", fn := fun _ => fun
  | [d1, d2] => { results := [.lit (.bool false)], args := [d1, d2] }
  | _ => none }
def MonitorAssertionsWrongFalsely : Prop := monitorAssertionsRow.holds Tryz.pinned (OpenSpec.ofChange monitorAssertionsWrong)

/-- 'relyguardlaw33.MonitorWeak': WHATEVER THE INPUT: true; the input reads as it did. -/
def monitorWeakSpec : ChangeSpec := { name := "monitorWeak", fn := fun _ => fun
  | [d1, d2, d3, d4] => { results := [.lit (.bool true)], args := [d1, d2, d3, d4] }
  | _ => none }
def monitorWeakRow : OpenClaim := { program := "ytjjmdcnmeommbaagreatdoor", sum := "a1671e429e3641535bfbd8da098b7c3e504ad5a7910f412bc68eb038c6ece47b", func := "relyguard/relyguardlaw33.MonitorWeak", spec := "monitorWeak", unfollowed := true, recurses := true, named := ["relyguard/expr.masks"], loops := true, apart := false, laid := [("relyguard/expr.masks", laid_relyguard_expr_masks)] }
def MonitorWeakSaid : Prop := monitorWeakRow.holds Tryz.pinned (OpenSpec.ofChange monitorWeakSpec)

/-- ITS FALSE NEIGHBOUR: 'it returns false'. Refute it at one input. -/
def monitorWeakWrong : ChangeSpec := { name := "monitorWeak", fn := fun _ => fun
  | [d1, d2, d3, d4] => { results := [.lit (.bool false)], args := [d1, d2, d3, d4] }
  | _ => none }
def MonitorWeakWrongFalsely : Prop := monitorWeakRow.holds Tryz.pinned (OpenSpec.ofChange monitorWeakWrong)

/-- 'relyguardlaw34.ShrinkMatchesReference': WHATEVER THE INPUT: true; the input reads as it did. -/
def shrinkMatchesReferenceSpec : ChangeSpec := { name := "shrinkMatchesReference", fn := fun _ => fun
  | [d1, d2, d3] => { results := [.lit (.bool true)], args := [d1, d2, d3] }
  | _ => none }
def shrinkMatchesReferenceRow : OpenClaim := { program := "ytjjmdcnmeommbaagreatdoor", sum := "a1671e429e3641535bfbd8da098b7c3e504ad5a7910f412bc68eb038c6ece47b", func := "relyguard/relyguardlaw34.ShrinkMatchesReference", spec := "shrinkMatchesReference", unfollowed := true, recurses := true, named := ["relyguard/expr.masks"], loops := true, apart := false, laid := [("relyguard/expr.masks", laid_relyguard_expr_masks)] }
def ShrinkMatchesReferenceSaid : Prop := shrinkMatchesReferenceRow.holds Tryz.pinned (OpenSpec.ofChange shrinkMatchesReferenceSpec)

/-- ITS FALSE NEIGHBOUR: 'it returns false'. Refute it at one input. -/
def shrinkMatchesReferenceWrong : ChangeSpec := { name := "shrinkMatchesReference", fn := fun _ => fun
  | [d1, d2, d3] => { results := [.lit (.bool false)], args := [d1, d2, d3] }
  | _ => none }
def ShrinkMatchesReferenceWrongFalsely : Prop := shrinkMatchesReferenceRow.holds Tryz.pinned (OpenSpec.ofChange shrinkMatchesReferenceWrong)

/-- 'relyguardlaw34.ShrinkSubsequence': WHATEVER THE INPUT: true; the input reads as it did. -/
def shrinkSubsequenceSpec : ChangeSpec := { name := "shrinkSubsequence", fn := fun _ => fun
  | [d1, d2, d3] => { results := [.lit (.bool true)], args := [d1, d2, d3] }
  | _ => none }
def shrinkSubsequenceRow : OpenClaim := { program := "ytjjmdcnmeommbaagreatdoor", sum := "a1671e429e3641535bfbd8da098b7c3e504ad5a7910f412bc68eb038c6ece47b", func := "relyguard/relyguardlaw34.ShrinkSubsequence", spec := "shrinkSubsequence", unfollowed := true, recurses := true, named := ["relyguard/expr.masks"], loops := true, apart := false, laid := [("relyguard/expr.masks", laid_relyguard_expr_masks)] }
def ShrinkSubsequenceSaid : Prop := shrinkSubsequenceRow.holds Tryz.pinned (OpenSpec.ofChange shrinkSubsequenceSpec)

/-- ITS FALSE NEIGHBOUR: 'it returns false'. Refute it at one input. -/
def shrinkSubsequenceWrong : ChangeSpec := { name := "shrinkSubsequence", fn := fun _ => fun
  | [d1, d2, d3] => { results := [.lit (.bool false)], args := [d1, d2, d3] }
  | _ => none }
def ShrinkSubsequenceWrongFalsely : Prop := shrinkSubsequenceRow.holds Tryz.pinned (OpenSpec.ofChange shrinkSubsequenceWrong)

/-- 'relyguardlaw34.ShrinkMinimal': WHATEVER THE INPUT: true; the input reads as it did. -/
def shrinkMinimalSpec : ChangeSpec := { name := "shrinkMinimal", fn := fun _ => fun
  | [d1, d2, d3] => { results := [.lit (.bool true)], args := [d1, d2, d3] }
  | _ => none }
def shrinkMinimalRow : OpenClaim := { program := "ytjjmdcnmeommbaagreatdoor", sum := "a1671e429e3641535bfbd8da098b7c3e504ad5a7910f412bc68eb038c6ece47b", func := "relyguard/relyguardlaw34.ShrinkMinimal", spec := "shrinkMinimal", unfollowed := true, recurses := true, named := ["relyguard/expr.masks"], loops := true, apart := false, laid := [("relyguard/expr.masks", laid_relyguard_expr_masks)] }
def ShrinkMinimalSaid : Prop := shrinkMinimalRow.holds Tryz.pinned (OpenSpec.ofChange shrinkMinimalSpec)

/-- ITS FALSE NEIGHBOUR: 'it returns false'. Refute it at one input. -/
def shrinkMinimalWrong : ChangeSpec := { name := "shrinkMinimal", fn := fun _ => fun
  | [d1, d2, d3] => { results := [.lit (.bool false)], args := [d1, d2, d3] }
  | _ => none }
def ShrinkMinimalWrongFalsely : Prop := shrinkMinimalRow.holds Tryz.pinned (OpenSpec.ofChange shrinkMinimalWrong)

/-- 'relyguardlaw34.ShrinkSuffix': WHATEVER THE INPUT: true; the input reads as it did. -/
def shrinkSuffixSpec : ChangeSpec := { name := "shrinkSuffix", fn := fun _ => fun
  | [d1, d2, d3, d4] => { results := [.lit (.bool true)], args := [d1, d2, d3, d4] }
  | _ => none }
def shrinkSuffixRow : OpenClaim := { program := "ytjjmdcnmeommbaagreatdoor", sum := "a1671e429e3641535bfbd8da098b7c3e504ad5a7910f412bc68eb038c6ece47b", func := "relyguard/relyguardlaw34.ShrinkSuffix", spec := "shrinkSuffix", unfollowed := true, recurses := true, named := ["relyguard/expr.masks"], loops := true, apart := false, laid := [("relyguard/expr.masks", laid_relyguard_expr_masks)] }
def ShrinkSuffixSaid : Prop := shrinkSuffixRow.holds Tryz.pinned (OpenSpec.ofChange shrinkSuffixSpec)

/-- ITS FALSE NEIGHBOUR: 'it returns false'. Refute it at one input. -/
def shrinkSuffixWrong : ChangeSpec := { name := "shrinkSuffix", fn := fun _ => fun
  | [d1, d2, d3, d4] => { results := [.lit (.bool false)], args := [d1, d2, d3, d4] }
  | _ => none }
def ShrinkSuffixWrongFalsely : Prop := shrinkSuffixRow.holds Tryz.pinned (OpenSpec.ofChange shrinkSuffixWrong)

/-- 'relyguardlaw34.ShrinkShortest': WHATEVER THE INPUT: true; the input reads as it did. -/
def shrinkShortestSpec : ChangeSpec := { name := "shrinkShortest", fn := fun _ => fun
  | [d1, d2] => { results := [.lit (.bool true)], args := [d1, d2] }
  | _ => none }
def shrinkShortestRow : OpenClaim := { program := "ytjjmdcnmeommbaagreatdoor", sum := "a1671e429e3641535bfbd8da098b7c3e504ad5a7910f412bc68eb038c6ece47b", func := "relyguard/relyguardlaw34.ShrinkShortest", spec := "shrinkShortest", unfollowed := true, recurses := true, named := ["relyguard/expr.masks"], loops := true, apart := false, laid := [("relyguard/expr.masks", laid_relyguard_expr_masks)] }
def ShrinkShortestSaid : Prop := shrinkShortestRow.holds Tryz.pinned (OpenSpec.ofChange shrinkShortestSpec)

/-- ITS FALSE NEIGHBOUR: 'it returns false'. Refute it at one input. -/
def shrinkShortestWrong : ChangeSpec := { name := "shrinkShortest", fn := fun _ => fun
  | [d1, d2] => { results := [.lit (.bool false)], args := [d1, d2] }
  | _ => none }
def ShrinkShortestWrongFalsely : Prop := shrinkShortestRow.holds Tryz.pinned (OpenSpec.ofChange shrinkShortestWrong)

/- THE SECOND FORM. 'bulk': how many values and letters a reading holds, each counted each time it is reached (what is shared counts as often as it is met; a slice's spare places count too). A statement '..UptoSaid' is the law's where the arguments, and the package variables that the reading takes, are together of bulk at most 1048576: NARROWER than '..Said'. Prove '..Said' where nothing that the law and all that it calls make is longer than what came in: it says more and counts as full. Else prove '..UptoSaid'. A law counts once. -/
mutual
def uptoBulk {H : Type} : DataW H → Nat
  | .lit (.string bytes) => bytes.length + 1
  | .lit _ => 1
  | .nil => 1
  | .ptr d => uptoBulk d + 1
  | .slice elems spare => uptoBulkAll elems + uptoBulkAll spare + 1
  | .agg parts => uptoBulkAll parts + 1
  | .iface _ d => uptoBulk d + 1
  | .map entries => uptoBulkEntries entries + 1
  | .held _ => 1
def uptoBulkAll {H : Type} : List (DataW H) → Nat
  | [] => 0
  | d :: r => uptoBulk d + uptoBulkAll r
def uptoBulkEntries {H : Type} : List (Lit × DataW H) → Nat
  | [] => 0
  | x :: r => uptoBulkEntry x + uptoBulkEntries r
def uptoBulkEntry {H : Type} : Lit × DataW H → Nat
  | (.string bytes, d) => bytes.length + uptoBulk d + 1
  | (_, d) => uptoBulk d + 1
 end
def uptoSmall : (H : Type) → List (DataW H) → Bool := fun _ ds => decide (uptoBulkAll ds ≤ 1048576)
def OpenSpec.upto (s : _root_.Go.ChangeSpec) : _root_.Go.OpenSpec := { _root_.Go.OpenSpec.ofChange s with cond := some uptoSmall }

/-- 'relyguardlaw33.MonitorPrefixes', WHERE WHAT IT READS IS OF BULK AT MOST 1048576: true; the input reads as it did. -/
def monitorPrefixesUptoRow : OpenClaim := { program := "ytjjmdcnmeommbaagreatdoor", sum := "a1671e429e3641535bfbd8da098b7c3e504ad5a7910f412bc68eb038c6ece47b", func := "relyguard/relyguardlaw33.MonitorPrefixes", spec := "monitorPrefixes", unfollowed := true, recurses := true, named := ["relyguard/expr.masks"], loops := true, apart := false, laid := [("relyguard/expr.masks", laid_relyguard_expr_masks)], narrowed := true }
def MonitorPrefixesUptoSaid : Prop := monitorPrefixesUptoRow.holds Tryz.pinned (OpenSpec.upto monitorPrefixesSpec)

/-- 'relyguardlaw33.MonitorBlame', WHERE WHAT IT READS IS OF BULK AT MOST 1048576: true; the input reads as it did. -/
def monitorBlameUptoRow : OpenClaim := { program := "ytjjmdcnmeommbaagreatdoor", sum := "a1671e429e3641535bfbd8da098b7c3e504ad5a7910f412bc68eb038c6ece47b", func := "relyguard/relyguardlaw33.MonitorBlame", spec := "monitorBlame", unfollowed := true, recurses := true, named := ["relyguard/expr.masks"], loops := true, apart := false, laid := [("relyguard/expr.masks", laid_relyguard_expr_masks)], narrowed := true }
def MonitorBlameUptoSaid : Prop := monitorBlameUptoRow.holds Tryz.pinned (OpenSpec.upto monitorBlameSpec)

/-- 'relyguardlaw33.MonitorOrder', WHERE WHAT IT READS IS OF BULK AT MOST 1048576: true; the input reads as it did. -/
def monitorOrderUptoRow : OpenClaim := { program := "ytjjmdcnmeommbaagreatdoor", sum := "a1671e429e3641535bfbd8da098b7c3e504ad5a7910f412bc68eb038c6ece47b", func := "relyguard/relyguardlaw33.MonitorOrder", spec := "monitorOrder", unfollowed := true, recurses := true, named := ["relyguard/expr.masks"], loops := true, apart := false, laid := [("relyguard/expr.masks", laid_relyguard_expr_masks)], narrowed := true }
def MonitorOrderUptoSaid : Prop := monitorOrderUptoRow.holds Tryz.pinned (OpenSpec.upto monitorOrderSpec)

/-- 'relyguardlaw33.MonitorAssertions', WHERE WHAT IT READS IS OF BULK AT MOST 1048576: true; the input reads as it did. -/
def monitorAssertionsUptoRow : OpenClaim := { program := "ytjjmdcnmeommbaagreatdoor", sum := "a1671e429e3641535bfbd8da098b7c3e504ad5a7910f412bc68eb038c6ece47b", func := "relyguard/relyguardlaw33.MonitorAssertions", spec := "monitorAssertions", unfollowed := true, recurses := true, named := ["relyguard/expr.masks"], loops := true, apart := false, laid := [("relyguard/expr.masks", laid_relyguard_expr_masks)], narrowed := true }
def MonitorAssertionsUptoSaid : Prop := monitorAssertionsUptoRow.holds Tryz.pinned (OpenSpec.upto monitorAssertionsSpec)

/-- 'relyguardlaw33.MonitorWeak', WHERE WHAT IT READS IS OF BULK AT MOST 1048576: true; the input reads as it did. -/
def monitorWeakUptoRow : OpenClaim := { program := "ytjjmdcnmeommbaagreatdoor", sum := "a1671e429e3641535bfbd8da098b7c3e504ad5a7910f412bc68eb038c6ece47b", func := "relyguard/relyguardlaw33.MonitorWeak", spec := "monitorWeak", unfollowed := true, recurses := true, named := ["relyguard/expr.masks"], loops := true, apart := false, laid := [("relyguard/expr.masks", laid_relyguard_expr_masks)], narrowed := true }
def MonitorWeakUptoSaid : Prop := monitorWeakUptoRow.holds Tryz.pinned (OpenSpec.upto monitorWeakSpec)

/-- 'relyguardlaw34.ShrinkMatchesReference', WHERE WHAT IT READS IS OF BULK AT MOST 1048576: true; the input reads as it did. -/
def shrinkMatchesReferenceUptoRow : OpenClaim := { program := "ytjjmdcnmeommbaagreatdoor", sum := "a1671e429e3641535bfbd8da098b7c3e504ad5a7910f412bc68eb038c6ece47b", func := "relyguard/relyguardlaw34.ShrinkMatchesReference", spec := "shrinkMatchesReference", unfollowed := true, recurses := true, named := ["relyguard/expr.masks"], loops := true, apart := false, laid := [("relyguard/expr.masks", laid_relyguard_expr_masks)], narrowed := true }
def ShrinkMatchesReferenceUptoSaid : Prop := shrinkMatchesReferenceUptoRow.holds Tryz.pinned (OpenSpec.upto shrinkMatchesReferenceSpec)

/-- 'relyguardlaw34.ShrinkSubsequence', WHERE WHAT IT READS IS OF BULK AT MOST 1048576: true; the input reads as it did. -/
def shrinkSubsequenceUptoRow : OpenClaim := { program := "ytjjmdcnmeommbaagreatdoor", sum := "a1671e429e3641535bfbd8da098b7c3e504ad5a7910f412bc68eb038c6ece47b", func := "relyguard/relyguardlaw34.ShrinkSubsequence", spec := "shrinkSubsequence", unfollowed := true, recurses := true, named := ["relyguard/expr.masks"], loops := true, apart := false, laid := [("relyguard/expr.masks", laid_relyguard_expr_masks)], narrowed := true }
def ShrinkSubsequenceUptoSaid : Prop := shrinkSubsequenceUptoRow.holds Tryz.pinned (OpenSpec.upto shrinkSubsequenceSpec)

/-- 'relyguardlaw34.ShrinkMinimal', WHERE WHAT IT READS IS OF BULK AT MOST 1048576: true; the input reads as it did. -/
def shrinkMinimalUptoRow : OpenClaim := { program := "ytjjmdcnmeommbaagreatdoor", sum := "a1671e429e3641535bfbd8da098b7c3e504ad5a7910f412bc68eb038c6ece47b", func := "relyguard/relyguardlaw34.ShrinkMinimal", spec := "shrinkMinimal", unfollowed := true, recurses := true, named := ["relyguard/expr.masks"], loops := true, apart := false, laid := [("relyguard/expr.masks", laid_relyguard_expr_masks)], narrowed := true }
def ShrinkMinimalUptoSaid : Prop := shrinkMinimalUptoRow.holds Tryz.pinned (OpenSpec.upto shrinkMinimalSpec)

/-- 'relyguardlaw34.ShrinkSuffix', WHERE WHAT IT READS IS OF BULK AT MOST 1048576: true; the input reads as it did. -/
def shrinkSuffixUptoRow : OpenClaim := { program := "ytjjmdcnmeommbaagreatdoor", sum := "a1671e429e3641535bfbd8da098b7c3e504ad5a7910f412bc68eb038c6ece47b", func := "relyguard/relyguardlaw34.ShrinkSuffix", spec := "shrinkSuffix", unfollowed := true, recurses := true, named := ["relyguard/expr.masks"], loops := true, apart := false, laid := [("relyguard/expr.masks", laid_relyguard_expr_masks)], narrowed := true }
def ShrinkSuffixUptoSaid : Prop := shrinkSuffixUptoRow.holds Tryz.pinned (OpenSpec.upto shrinkSuffixSpec)

/-- 'relyguardlaw34.ShrinkShortest', WHERE WHAT IT READS IS OF BULK AT MOST 1048576: true; the input reads as it did. -/
def shrinkShortestUptoRow : OpenClaim := { program := "ytjjmdcnmeommbaagreatdoor", sum := "a1671e429e3641535bfbd8da098b7c3e504ad5a7910f412bc68eb038c6ece47b", func := "relyguard/relyguardlaw34.ShrinkShortest", spec := "shrinkShortest", unfollowed := true, recurses := true, named := ["relyguard/expr.masks"], loops := true, apart := false, laid := [("relyguard/expr.masks", laid_relyguard_expr_masks)], narrowed := true }
def ShrinkShortestUptoSaid : Prop := shrinkShortestUptoRow.holds Tryz.pinned (OpenSpec.upto shrinkShortestSpec)

end Rows
end Go.Proofs.YtjjmdcnmeommbaaGreatDoor
