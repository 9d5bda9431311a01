/-
  NARROWER THAN 'FOR EVERY INPUT', by the rows' own cells (each row's printed sentence says how): InterfereMatchesReference: loops, laid · InterfereStep: loops, laid · InterfereRuns: loops, laid · InterfereOrder: loops, laid · InterfereFrames: loops, laid · InterferePairs: loops, laid · InterfereRestriction: loops, laid.
  DERIVED. THE GIVEN ROWS OF THIS SEAT. 7 by the template 'for every input the law returns true; each argument reads behind the call as it read before'; 0 by the template 'total and deterministic' (their statements: YtlegngbbcckmnaaGreatDoorTotals.lean).
  GIVEN WITH THE SEED: the statements are not yours to turn. If you find one false, say at which input.
  Laid BY PROGRAM, IN A SANDBOX (cutbox-rows.mjs): the forced cells as the released guide's own fill.sh prints them over the translation 115229d9c3d4b2c2… (all of the seat's roots in one cut). By AI agents, Wed Nov 11 2026. No macro, syntax, notation, axiom, sorry.
-/
import Derived.Test.YtlegngbbcckmnaaGreatDoorChecked
import GoSem.Claim
import GoSem.ClaimJoined
import GoSem.ClaimMapViews
import Derived.JoinedTies
import Derived.KernelRfl
namespace Go.Proofs.YtlegngbbcckmnaaGreatDoor
/- THE CELL 'sum', in the pinned program and in every row, IS THE sha256 OF THE DUMP (.gsa) THAT YtlegngbbcckmnaaGreatDoorProg.lean LOADS. Nothing in Lean hashes anything: it is a label: what it is worth is what the hold of that sum in a sandbox is worth. -/
noncomputable def Tryz.pinned : Pinned := { name := "ytlegngbbcckmnaagreatdoor", sum := "115229d9c3d4b2c2c346825be0ebe2f9cc4784dd478ed8dbbea062c94e7f1da8", checked := Tryz.checked }
namespace Rows
def none {H : Type} : Left H := { results := [], args := [] }

/- WHAT THE LISTED PACKAGE-LEVEL VARIABLES READ AS WHEN THE CALL BEGINS. Each datum BY PROGRAM (the guide's laid-datum.mjs) off the statement by which the dump's own 'gosem.cut.vars' lays the variable. In a bare row this is a premise. The card (YtlegngbbcckmnaaGreatDoorCards.lean) ties it to the program's text. -/
def laid_math_bits_deBruijn32tab {H : Type} : DataW H := .agg [.lit (.int .u8 0), .lit (.int .u8 1), .lit (.int .u8 28), .lit (.int .u8 2), .lit (.int .u8 29), .lit (.int .u8 14), .lit (.int .u8 24), .lit (.int .u8 3), .lit (.int .u8 30), .lit (.int .u8 22), .lit (.int .u8 20), .lit (.int .u8 15), .lit (.int .u8 25), .lit (.int .u8 17), .lit (.int .u8 4), .lit (.int .u8 8), .lit (.int .u8 31), .lit (.int .u8 27), .lit (.int .u8 13), .lit (.int .u8 23), .lit (.int .u8 21), .lit (.int .u8 19), .lit (.int .u8 16), .lit (.int .u8 7), .lit (.int .u8 26), .lit (.int .u8 12), .lit (.int .u8 18), .lit (.int .u8 6), .lit (.int .u8 11), .lit (.int .u8 5), .lit (.int .u8 10), .lit (.int .u8 9)]
def laid_math_bits_deBruijn64tab {H : Type} : DataW H := .agg [.lit (.int .u8 0), .lit (.int .u8 1), .lit (.int .u8 56), .lit (.int .u8 2), .lit (.int .u8 57), .lit (.int .u8 49), .lit (.int .u8 28), .lit (.int .u8 3), .lit (.int .u8 61), .lit (.int .u8 58), .lit (.int .u8 42), .lit (.int .u8 50), .lit (.int .u8 38), .lit (.int .u8 29), .lit (.int .u8 17), .lit (.int .u8 4), .lit (.int .u8 62), .lit (.int .u8 47), .lit (.int .u8 59), .lit (.int .u8 36), .lit (.int .u8 45), .lit (.int .u8 43), .lit (.int .u8 51), .lit (.int .u8 22), .lit (.int .u8 53), .lit (.int .u8 39), .lit (.int .u8 33), .lit (.int .u8 30), .lit (.int .u8 24), .lit (.int .u8 18), .lit (.int .u8 12), .lit (.int .u8 5), .lit (.int .u8 63), .lit (.int .u8 55), .lit (.int .u8 48), .lit (.int .u8 27), .lit (.int .u8 60), .lit (.int .u8 41), .lit (.int .u8 37), .lit (.int .u8 16), .lit (.int .u8 46), .lit (.int .u8 35), .lit (.int .u8 44), .lit (.int .u8 21), .lit (.int .u8 52), .lit (.int .u8 32), .lit (.int .u8 23), .lit (.int .u8 11), .lit (.int .u8 54), .lit (.int .u8 26), .lit (.int .u8 40), .lit (.int .u8 15), .lit (.int .u8 34), .lit (.int .u8 20), .lit (.int .u8 31), .lit (.int .u8 10), .lit (.int .u8 25), .lit (.int .u8 14), .lit (.int .u8 19), .lit (.int .u8 9), .lit (.int .u8 13), .lit (.int .u8 8), .lit (.int .u8 7), .lit (.int .u8 6)]
def laid_internal_strconv_uint64pow10 {H : Type} : DataW H := .agg [.lit (.int .u64 1), .lit (.int .u64 10), .lit (.int .u64 100), .lit (.int .u64 1000), .lit (.int .u64 10000), .lit (.int .u64 100000), .lit (.int .u64 1000000), .lit (.int .u64 10000000), .lit (.int .u64 100000000), .lit (.int .u64 1000000000), .lit (.int .u64 10000000000), .lit (.int .u64 100000000000), .lit (.int .u64 1000000000000), .lit (.int .u64 10000000000000), .lit (.int .u64 100000000000000), .lit (.int .u64 1000000000000000), .lit (.int .u64 10000000000000000), .lit (.int .u64 100000000000000000), .lit (.int .u64 1000000000000000000), .lit (.int .u64 10000000000000000000)]
def laid_relyguard_expr_masks {H : Type} : DataW H := .agg [.lit (.int .i64 0), .lit (.int .i64 1), .lit (.int .i64 3), .lit (.int .i64 7), .lit (.int .i64 15), .lit (.int .i64 31), .lit (.int .i64 63), .lit (.int .i64 127), .lit (.int .i64 255)]
def laid_relyguard_expr_names {H : Type} : DataW H := .agg [.lit (.string [110, 111, 116]), .lit (.string [97, 110, 100]), .lit (.string [111, 114]), .lit (.string [120, 111, 114]), .lit (.string [97, 100, 100]), .lit (.string [115, 117, 98]), .lit (.string [109, 117, 108]), .lit (.string [101, 113]), .lit (.string [108, 116]), .lit (.string [108, 101]), .lit (.string [105, 116, 101])]

/-- 'relyguardlaw16.InterfereMatchesReference': WHATEVER THE INPUT: true; the input reads as it did. -/
def interfereMatchesReferenceSpec : ChangeSpec := { name := "interfereMatchesReference", fn := fun _ => fun
  | [d1, d2, d3, d4] => { results := [.lit (.bool true)], args := [d1, d2, d3, d4] }
  | _ => none }
def interfereMatchesReferenceRow : OpenClaim := { program := "ytlegngbbcckmnaagreatdoor", sum := "115229d9c3d4b2c2c346825be0ebe2f9cc4784dd478ed8dbbea062c94e7f1da8", func := "relyguard/relyguardlaw16.InterfereMatchesReference", spec := "interfereMatchesReference", inPlace := ["internal/abi.NoEscape"], unfollowed := true, recurses := true, named := ["relyguard/expr.masks", "math/bits.deBruijn64tab", "relyguard/expr.names", "internal/strconv.uint64pow10", "math/bits.deBruijn32tab"], loops := true, plainKeys := false, apart := false, laid := [("math/bits.deBruijn32tab", laid_math_bits_deBruijn32tab), ("math/bits.deBruijn64tab", laid_math_bits_deBruijn64tab), ("internal/strconv.uint64pow10", laid_internal_strconv_uint64pow10), ("relyguard/expr.masks", laid_relyguard_expr_masks), ("relyguard/expr.names", laid_relyguard_expr_names)] }
def InterfereMatchesReferenceSaid : Prop := interfereMatchesReferenceRow.holds Tryz.pinned (OpenSpec.ofChange interfereMatchesReferenceSpec)

/-- ITS FALSE NEIGHBOUR: 'it returns false'. Refute it at one input. -/
def interfereMatchesReferenceWrong : ChangeSpec := { name := "interfereMatchesReference", fn := fun _ => fun
  | [d1, d2, d3, d4] => { results := [.lit (.bool false)], args := [d1, d2, d3, d4] }
  | _ => none }
def InterfereMatchesReferenceWrongFalsely : Prop := interfereMatchesReferenceRow.holds Tryz.pinned (OpenSpec.ofChange interfereMatchesReferenceWrong)

/-- 'relyguardlaw16.InterfereStep': WHATEVER THE INPUT: true; the input reads as it did. -/
def interfereStepSpec : ChangeSpec := { name := "interfereStep", fn := fun _ => fun
  | [d1, d2] => { results := [.lit (.bool true)], args := [d1, d2] }
  | _ => none }
def interfereStepRow : OpenClaim := { program := "ytlegngbbcckmnaagreatdoor", sum := "115229d9c3d4b2c2c346825be0ebe2f9cc4784dd478ed8dbbea062c94e7f1da8", func := "relyguard/relyguardlaw16.InterfereStep", spec := "interfereStep", inPlace := ["internal/abi.NoEscape"], unfollowed := true, recurses := true, named := ["relyguard/expr.masks", "math/bits.deBruijn64tab", "relyguard/expr.names", "internal/strconv.uint64pow10", "math/bits.deBruijn32tab"], loops := true, plainKeys := false, apart := false, laid := [("math/bits.deBruijn32tab", laid_math_bits_deBruijn32tab), ("math/bits.deBruijn64tab", laid_math_bits_deBruijn64tab), ("internal/strconv.uint64pow10", laid_internal_strconv_uint64pow10), ("relyguard/expr.masks", laid_relyguard_expr_masks), ("relyguard/expr.names", laid_relyguard_expr_names)] }
def InterfereStepSaid : Prop := interfereStepRow.holds Tryz.pinned (OpenSpec.ofChange interfereStepSpec)

/-- ITS FALSE NEIGHBOUR: 'it returns false'. Refute it at one input. -/
def interfereStepWrong : ChangeSpec := { name := "interfereStep", fn := fun _ => fun
  | [d1, d2] => { results := [.lit (.bool false)], args := [d1, d2] }
  | _ => none }
def InterfereStepWrongFalsely : Prop := interfereStepRow.holds Tryz.pinned (OpenSpec.ofChange interfereStepWrong)

/-- 'relyguardlaw16.InterfereRuns': WHATEVER THE INPUT: true; the input reads as it did. -/
def interfereRunsSpec : ChangeSpec := { name := "interfereRuns", fn := fun _ => fun
  | [d1, d2, d3, d4, d5] => { results := [.lit (.bool true)], args := [d1, d2, d3, d4, d5] }
  | _ => none }
def interfereRunsRow : OpenClaim := { program := "ytlegngbbcckmnaagreatdoor", sum := "115229d9c3d4b2c2c346825be0ebe2f9cc4784dd478ed8dbbea062c94e7f1da8", func := "relyguard/relyguardlaw16.InterfereRuns", spec := "interfereRuns", inPlace := ["internal/abi.NoEscape"], unfollowed := true, recurses := true, named := ["relyguard/expr.masks", "math/bits.deBruijn64tab", "relyguard/expr.names", "internal/strconv.uint64pow10", "math/bits.deBruijn32tab"], loops := true, plainKeys := false, apart := false, laid := [("math/bits.deBruijn32tab", laid_math_bits_deBruijn32tab), ("math/bits.deBruijn64tab", laid_math_bits_deBruijn64tab), ("internal/strconv.uint64pow10", laid_internal_strconv_uint64pow10), ("relyguard/expr.masks", laid_relyguard_expr_masks), ("relyguard/expr.names", laid_relyguard_expr_names)] }
def InterfereRunsSaid : Prop := interfereRunsRow.holds Tryz.pinned (OpenSpec.ofChange interfereRunsSpec)

/-- ITS FALSE NEIGHBOUR: 'it returns false'. Refute it at one input. -/
def interfereRunsWrong : ChangeSpec := { name := "interfereRuns", fn := fun _ => fun
  | [d1, d2, d3, d4, d5] => { results := [.lit (.bool false)], args := [d1, d2, d3, d4, d5] }
  | _ => none }
def InterfereRunsWrongFalsely : Prop := interfereRunsRow.holds Tryz.pinned (OpenSpec.ofChange interfereRunsWrong)

/-- 'relyguardlaw16.InterfereOrder': WHATEVER THE INPUT: true; the input reads as it did. -/
def interfereOrderSpec : ChangeSpec := { name := "interfereOrder", fn := fun _ => fun
  | [d1, d2, d3, d4] => { results := [.lit (.bool true)], args := [d1, d2, d3, d4] }
  | _ => none }
def interfereOrderRow : OpenClaim := { program := "ytlegngbbcckmnaagreatdoor", sum := "115229d9c3d4b2c2c346825be0ebe2f9cc4784dd478ed8dbbea062c94e7f1da8", func := "relyguard/relyguardlaw16.InterfereOrder", spec := "interfereOrder", inPlace := ["internal/abi.NoEscape"], unfollowed := true, recurses := true, named := ["relyguard/expr.masks", "math/bits.deBruijn64tab", "relyguard/expr.names", "internal/strconv.uint64pow10", "math/bits.deBruijn32tab"], loops := true, plainKeys := false, apart := false, laid := [("math/bits.deBruijn32tab", laid_math_bits_deBruijn32tab), ("math/bits.deBruijn64tab", laid_math_bits_deBruijn64tab), ("internal/strconv.uint64pow10", laid_internal_strconv_uint64pow10), ("relyguard/expr.masks", laid_relyguard_expr_masks), ("relyguard/expr.names", laid_relyguard_expr_names)] }
def InterfereOrderSaid : Prop := interfereOrderRow.holds Tryz.pinned (OpenSpec.ofChange interfereOrderSpec)

/-- ITS FALSE NEIGHBOUR: 'it returns false'. Refute it at one input. -/
def interfereOrderWrong : ChangeSpec := { name := "interfereOrder", fn := fun _ => fun
  | [d1, d2, d3, d4] => { results := [.lit (.bool false)], args := [d1, d2, d3, d4] }
  | _ => none }
def InterfereOrderWrongFalsely : Prop := interfereOrderRow.holds Tryz.pinned (OpenSpec.ofChange interfereOrderWrong)

/-- 'relyguardlaw16.InterfereFrames': WHATEVER THE INPUT: true; the input reads as it did. -/
def interfereFramesSpec : ChangeSpec := { name := "interfereFrames", fn := fun _ => fun
  | [d1, d2, d3] => { results := [.lit (.bool true)], args := [d1, d2, d3] }
  | _ => none }
def interfereFramesRow : OpenClaim := { program := "ytlegngbbcckmnaagreatdoor", sum := "115229d9c3d4b2c2c346825be0ebe2f9cc4784dd478ed8dbbea062c94e7f1da8", func := "relyguard/relyguardlaw16.InterfereFrames", spec := "interfereFrames", inPlace := ["internal/abi.NoEscape"], unfollowed := true, recurses := true, named := ["relyguard/expr.masks", "math/bits.deBruijn64tab", "relyguard/expr.names", "internal/strconv.uint64pow10", "math/bits.deBruijn32tab"], loops := true, plainKeys := false, apart := false, laid := [("math/bits.deBruijn32tab", laid_math_bits_deBruijn32tab), ("math/bits.deBruijn64tab", laid_math_bits_deBruijn64tab), ("internal/strconv.uint64pow10", laid_internal_strconv_uint64pow10), ("relyguard/expr.masks", laid_relyguard_expr_masks), ("relyguard/expr.names", laid_relyguard_expr_names)] }
def InterfereFramesSaid : Prop := interfereFramesRow.holds Tryz.pinned (OpenSpec.ofChange interfereFramesSpec)

/-- ITS FALSE NEIGHBOUR: 'it returns false'. Refute it at one input. -/
def interfereFramesWrong : ChangeSpec := { name := "interfereFrames", fn := fun _ => fun
  | [d1, d2, d3] => { results := [.lit (.bool false)], args := [d1, d2, d3] }
  | _ => none }
def InterfereFramesWrongFalsely : Prop := interfereFramesRow.holds Tryz.pinned (OpenSpec.ofChange interfereFramesWrong)

/-- 'relyguardlaw16.InterferePairs': WHATEVER THE INPUT: true; the input reads as it did. -/
def interferePairsSpec : ChangeSpec := { name := "interferePairs", fn := fun _ => fun
  | [d1, d2, d3] => { results := [.lit (.bool true)], args := [d1, d2, d3] }
  | _ => none }
def interferePairsRow : OpenClaim := { program := "ytlegngbbcckmnaagreatdoor", sum := "115229d9c3d4b2c2c346825be0ebe2f9cc4784dd478ed8dbbea062c94e7f1da8", func := "relyguard/relyguardlaw16.InterferePairs", spec := "interferePairs", inPlace := ["internal/abi.NoEscape"], unfollowed := true, recurses := true, named := ["relyguard/expr.masks", "math/bits.deBruijn64tab", "relyguard/expr.names", "internal/strconv.uint64pow10", "math/bits.deBruijn32tab"], loops := true, plainKeys := false, apart := false, laid := [("math/bits.deBruijn32tab", laid_math_bits_deBruijn32tab), ("math/bits.deBruijn64tab", laid_math_bits_deBruijn64tab), ("internal/strconv.uint64pow10", laid_internal_strconv_uint64pow10), ("relyguard/expr.masks", laid_relyguard_expr_masks), ("relyguard/expr.names", laid_relyguard_expr_names)] }
def InterferePairsSaid : Prop := interferePairsRow.holds Tryz.pinned (OpenSpec.ofChange interferePairsSpec)

/-- ITS FALSE NEIGHBOUR: 'it returns false'. Refute it at one input. -/
def interferePairsWrong : ChangeSpec := { name := "interferePairs", fn := fun _ => fun
  | [d1, d2, d3] => { results := [.lit (.bool false)], args := [d1, d2, d3] }
  | _ => none }
def InterferePairsWrongFalsely : Prop := interferePairsRow.holds Tryz.pinned (OpenSpec.ofChange interferePairsWrong)

/-- 'relyguardlaw16.InterfereRestriction': WHATEVER THE INPUT: true; the input reads as it did. -/
def interfereRestrictionSpec : ChangeSpec := { name := "interfereRestriction", fn := fun _ => fun
  | [d1, d2, d3, d4] => { results := [.lit (.bool true)], args := [d1, d2, d3, d4] }
  | _ => none }
def interfereRestrictionRow : OpenClaim := { program := "ytlegngbbcckmnaagreatdoor", sum := "115229d9c3d4b2c2c346825be0ebe2f9cc4784dd478ed8dbbea062c94e7f1da8", func := "relyguard/relyguardlaw16.InterfereRestriction", spec := "interfereRestriction", inPlace := ["internal/abi.NoEscape"], unfollowed := true, recurses := true, named := ["relyguard/expr.masks", "math/bits.deBruijn64tab", "relyguard/expr.names", "internal/strconv.uint64pow10", "math/bits.deBruijn32tab"], loops := true, plainKeys := false, apart := false, laid := [("math/bits.deBruijn32tab", laid_math_bits_deBruijn32tab), ("math/bits.deBruijn64tab", laid_math_bits_deBruijn64tab), ("internal/strconv.uint64pow10", laid_internal_strconv_uint64pow10), ("relyguard/expr.masks", laid_relyguard_expr_masks), ("relyguard/expr.names", laid_relyguard_expr_names)] }
def InterfereRestrictionSaid : Prop := interfereRestrictionRow.holds Tryz.pinned (OpenSpec.ofChange interfereRestrictionSpec)

/-- ITS FALSE NEIGHBOUR: 'it returns false'. Refute it at one input. -/
def interfereRestrictionWrong : ChangeSpec := { name := "interfereRestriction", fn := fun _ => fun
  | [d1, d2, d3, d4] => { results := [.lit (.bool false)], args := [d1, d2, d3, d4] }
  | _ => none }
def InterfereRestrictionWrongFalsely : Prop := interfereRestrictionRow.holds Tryz.pinned (OpenSpec.ofChange interfereRestrictionWrong)

/- THE SECOND FORM. 'bulk': how many values and letters a reading holds, each counted each time it is reached (what is shared counts as often as it is met; a slice's spare places count too). A statement '..UptoSaid' is the law's where the arguments, and the package variables that the reading takes, are together of bulk at most 1048576: NARROWER than '..Said'. Prove '..Said' where nothing that the law and all that it calls make is longer than what came in: it says more and counts as full. Else prove '..UptoSaid'. A law counts once. -/
mutual
def uptoBulk {H : Type} : DataW H → Nat
  | .lit (.string bytes) => bytes.length + 1
  | .lit _ => 1
  | .nil => 1
  | .ptr d => uptoBulk d + 1
  | .slice elems spare => uptoBulkAll elems + uptoBulkAll spare + 1
  | .agg parts => uptoBulkAll parts + 1
  | .iface _ d => uptoBulk d + 1
  | .map entries => uptoBulkEntries entries + 1
  | .held _ => 1
def uptoBulkAll {H : Type} : List (DataW H) → Nat
  | [] => 0
  | d :: r => uptoBulk d + uptoBulkAll r
def uptoBulkEntries {H : Type} : List (Lit × DataW H) → Nat
  | [] => 0
  | x :: r => uptoBulkEntry x + uptoBulkEntries r
def uptoBulkEntry {H : Type} : Lit × DataW H → Nat
  | (.string bytes, d) => bytes.length + uptoBulk d + 1
  | (_, d) => uptoBulk d + 1
 end
def uptoSmall : (H : Type) → List (DataW H) → Bool := fun _ ds => decide (uptoBulkAll ds ≤ 1048576)
def OpenSpec.upto (s : _root_.Go.ChangeSpec) : _root_.Go.OpenSpec := { _root_.Go.OpenSpec.ofChange s with cond := some uptoSmall }

/-- 'relyguardlaw16.InterfereMatchesReference', WHERE WHAT IT READS IS OF BULK AT MOST 1048576: true; the input reads as it did. -/
def interfereMatchesReferenceUptoRow : OpenClaim := { program := "ytlegngbbcckmnaagreatdoor", sum := "115229d9c3d4b2c2c346825be0ebe2f9cc4784dd478ed8dbbea062c94e7f1da8", func := "relyguard/relyguardlaw16.InterfereMatchesReference", spec := "interfereMatchesReference", inPlace := ["internal/abi.NoEscape"], unfollowed := true, recurses := true, named := ["relyguard/expr.masks", "math/bits.deBruijn64tab", "relyguard/expr.names", "internal/strconv.uint64pow10", "math/bits.deBruijn32tab"], loops := true, plainKeys := false, apart := false, laid := [("math/bits.deBruijn32tab", laid_math_bits_deBruijn32tab), ("math/bits.deBruijn64tab", laid_math_bits_deBruijn64tab), ("internal/strconv.uint64pow10", laid_internal_strconv_uint64pow10), ("relyguard/expr.masks", laid_relyguard_expr_masks), ("relyguard/expr.names", laid_relyguard_expr_names)], narrowed := true }
def InterfereMatchesReferenceUptoSaid : Prop := interfereMatchesReferenceUptoRow.holds Tryz.pinned (OpenSpec.upto interfereMatchesReferenceSpec)

/-- 'relyguardlaw16.InterfereStep', WHERE WHAT IT READS IS OF BULK AT MOST 1048576: true; the input reads as it did. -/
def interfereStepUptoRow : OpenClaim := { program := "ytlegngbbcckmnaagreatdoor", sum := "115229d9c3d4b2c2c346825be0ebe2f9cc4784dd478ed8dbbea062c94e7f1da8", func := "relyguard/relyguardlaw16.InterfereStep", spec := "interfereStep", inPlace := ["internal/abi.NoEscape"], unfollowed := true, recurses := true, named := ["relyguard/expr.masks", "math/bits.deBruijn64tab", "relyguard/expr.names", "internal/strconv.uint64pow10", "math/bits.deBruijn32tab"], loops := true, plainKeys := false, apart := false, laid := [("math/bits.deBruijn32tab", laid_math_bits_deBruijn32tab), ("math/bits.deBruijn64tab", laid_math_bits_deBruijn64tab), ("internal/strconv.uint64pow10", laid_internal_strconv_uint64pow10), ("relyguard/expr.masks", laid_relyguard_expr_masks), ("relyguard/expr.names", laid_relyguard_expr_names)], narrowed := true }
def InterfereStepUptoSaid : Prop := interfereStepUptoRow.holds Tryz.pinned (OpenSpec.upto interfereStepSpec)

/-- 'relyguardlaw16.InterfereRuns', WHERE WHAT IT READS IS OF BULK AT MOST 1048576: true; the input reads as it did. -/
def interfereRunsUptoRow : OpenClaim := { program := "ytlegngbbcckmnaagreatdoor", sum := "115229d9c3d4b2c2c346825be0ebe2f9cc4784dd478ed8dbbea062c94e7f1da8", func := "relyguard/relyguardlaw16.InterfereRuns", spec := "interfereRuns", inPlace := ["internal/abi.NoEscape"], unfollowed := true, recurses := true, named := ["relyguard/expr.masks", "math/bits.deBruijn64tab", "relyguard/expr.names", "internal/strconv.uint64pow10", "math/bits.deBruijn32tab"], loops := true, plainKeys := false, apart := false, laid := [("math/bits.deBruijn32tab", laid_math_bits_deBruijn32tab), ("math/bits.deBruijn64tab", laid_math_bits_deBruijn64tab), ("internal/strconv.uint64pow10", laid_internal_strconv_uint64pow10), ("relyguard/expr.masks", laid_relyguard_expr_masks), ("relyguard/expr.names", laid_relyguard_expr_names)], narrowed := true }
def InterfereRunsUptoSaid : Prop := interfereRunsUptoRow.holds Tryz.pinned (OpenSpec.upto interfereRunsSpec)

/-- 'relyguardlaw16.InterfereOrder', WHERE WHAT IT READS IS OF BULK AT MOST 1048576: true; the input reads as it did. -/
def interfereOrderUptoRow : OpenClaim := { program := "ytlegngbbcckmnaagreatdoor", sum := "115229d9c3d4b2c2c346825be0ebe2f9cc4784dd478ed8dbbea062c94e7f1da8", func := "relyguard/relyguardlaw16.InterfereOrder", spec := "interfereOrder", inPlace := ["internal/abi.NoEscape"], unfollowed := true, recurses := true, named := ["relyguard/expr.masks", "math/bits.deBruijn64tab", "relyguard/expr.names", "internal/strconv.uint64pow10", "math/bits.deBruijn32tab"], loops := true, plainKeys := false, apart := false, laid := [("math/bits.deBruijn32tab", laid_math_bits_deBruijn32tab), ("math/bits.deBruijn64tab", laid_math_bits_deBruijn64tab), ("internal/strconv.uint64pow10", laid_internal_strconv_uint64pow10), ("relyguard/expr.masks", laid_relyguard_expr_masks), ("relyguard/expr.names", laid_relyguard_expr_names)], narrowed := true }
def InterfereOrderUptoSaid : Prop := interfereOrderUptoRow.holds Tryz.pinned (OpenSpec.upto interfereOrderSpec)

/-- 'relyguardlaw16.InterfereFrames', WHERE WHAT IT READS IS OF BULK AT MOST 1048576: true; the input reads as it did. -/
def interfereFramesUptoRow : OpenClaim := { program := "ytlegngbbcckmnaagreatdoor", sum := "115229d9c3d4b2c2c346825be0ebe2f9cc4784dd478ed8dbbea062c94e7f1da8", func := "relyguard/relyguardlaw16.InterfereFrames", spec := "interfereFrames", inPlace := ["internal/abi.NoEscape"], unfollowed := true, recurses := true, named := ["relyguard/expr.masks", "math/bits.deBruijn64tab", "relyguard/expr.names", "internal/strconv.uint64pow10", "math/bits.deBruijn32tab"], loops := true, plainKeys := false, apart := false, laid := [("math/bits.deBruijn32tab", laid_math_bits_deBruijn32tab), ("math/bits.deBruijn64tab", laid_math_bits_deBruijn64tab), ("internal/strconv.uint64pow10", laid_internal_strconv_uint64pow10), ("relyguard/expr.masks", laid_relyguard_expr_masks), ("relyguard/expr.names", laid_relyguard_expr_names)], narrowed := true }
def InterfereFramesUptoSaid : Prop := interfereFramesUptoRow.holds Tryz.pinned (OpenSpec.upto interfereFramesSpec)

/-- 'relyguardlaw16.InterferePairs', WHERE WHAT IT READS IS OF BULK AT MOST 1048576: true; the input reads as it did. -/
def interferePairsUptoRow : OpenClaim := { program := "ytlegngbbcckmnaagreatdoor", sum := "115229d9c3d4b2c2c346825be0ebe2f9cc4784dd478ed8dbbea062c94e7f1da8", func := "relyguard/relyguardlaw16.InterferePairs", spec := "interferePairs", inPlace := ["internal/abi.NoEscape"], unfollowed := true, recurses := true, named := ["relyguard/expr.masks", "math/bits.deBruijn64tab", "relyguard/expr.names", "internal/strconv.uint64pow10", "math/bits.deBruijn32tab"], loops := true, plainKeys := false, apart := false, laid := [("math/bits.deBruijn32tab", laid_math_bits_deBruijn32tab), ("math/bits.deBruijn64tab", laid_math_bits_deBruijn64tab), ("internal/strconv.uint64pow10", laid_internal_strconv_uint64pow10), ("relyguard/expr.masks", laid_relyguard_expr_masks), ("relyguard/expr.names", laid_relyguard_expr_names)], narrowed := true }
def InterferePairsUptoSaid : Prop := interferePairsUptoRow.holds Tryz.pinned (OpenSpec.upto interferePairsSpec)

/-- 'relyguardlaw16.InterfereRestriction', WHERE WHAT IT READS IS OF BULK AT MOST 1048576: true; the input reads as it did. -/
def interfereRestrictionUptoRow : OpenClaim := { program := "ytlegngbbcckmnaagreatdoor", sum := "115229d9c3d4b2c2c346825be0ebe2f9cc4784dd478ed8dbbea062c94e7f1da8", func := "relyguard/relyguardlaw16.InterfereRestriction", spec := "interfereRestriction", inPlace := ["internal/abi.NoEscape"], unfollowed := true, recurses := true, named := ["relyguard/expr.masks", "math/bits.deBruijn64tab", "relyguard/expr.names", "internal/strconv.uint64pow10", "math/bits.deBruijn32tab"], loops := true, plainKeys := false, apart := false, laid := [("math/bits.deBruijn32tab", laid_math_bits_deBruijn32tab), ("math/bits.deBruijn64tab", laid_math_bits_deBruijn64tab), ("internal/strconv.uint64pow10", laid_internal_strconv_uint64pow10), ("relyguard/expr.masks", laid_relyguard_expr_masks), ("relyguard/expr.names", laid_relyguard_expr_names)], narrowed := true }
def InterfereRestrictionUptoSaid : Prop := interfereRestrictionUptoRow.holds Tryz.pinned (OpenSpec.upto interfereRestrictionSpec)

end Rows
end Go.Proofs.YtlegngbbcckmnaaGreatDoor
