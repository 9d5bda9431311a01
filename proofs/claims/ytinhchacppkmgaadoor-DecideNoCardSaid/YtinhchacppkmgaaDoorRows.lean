/-
  NARROWER THAN 'FOR EVERY INPUT', by the rows' own cells (each row's printed sentence says how): DecideYes: loops, laid · DecideConnectives: loops, laid · DecideCut: loops, laid · DecideNo: loops, laid.
  DERIVED. THE GIVEN ROWS OF THIS SEAT. 4 by the template 'for every input the law returns true; each argument reads behind the call as it read before'; 0 by the template 'total and deterministic' (their statements: YtinhchacppkmgaaDoorTotals.lean).
  GIVEN WITH THE SEED: the statements are not yours to turn. If you find one false, say at which input.
  Laid BY PROGRAM, IN A SANDBOX (cutbox-rows.mjs): the forced cells as the released guide's own fill.sh prints them over the translation 4518bc6a14044cb7… (all of the seat's roots in one cut). By AI agents, Wed Nov 11 2026. No macro, syntax, notation, axiom, sorry.
-/
import Derived.Test.YtinhchacppkmgaaDoorChecked
import GoSem.Claim
import GoSem.ClaimJoined
import GoSem.ClaimMapViews
import Derived.JoinedTies
import Derived.KernelRfl
namespace Go.Proofs.YtinhchacppkmgaaDoor
/- THE CELL 'sum', in the pinned program and in every row, IS THE sha256 OF THE DUMP (.gsa) THAT YtinhchacppkmgaaDoorProg.lean LOADS. Nothing in Lean hashes anything: it is a label: what it is worth is what the hold of that sum in a sandbox is worth. -/
noncomputable def Tryd.pinned : Pinned := { name := "ytinhchacppkmgaadoor", sum := "4518bc6a14044cb7eca5ecd128e1350b4d9725470028e63fa8533d60ffc2f04e", checked := Tryd.checked }
namespace Rows
def none {H : Type} : Left H := { results := [], args := [] }

/- WHAT THE LISTED PACKAGE-LEVEL VARIABLES READ AS WHEN THE CALL BEGINS. Each datum BY PROGRAM (the guide's laid-datum.mjs) off the statement by which the dump's own 'gosem.cut.vars' lays the variable. In a bare row this is a premise. The card (YtinhchacppkmgaaDoorCards.lean) ties it to the program's text. -/
def laid_relyguard_expr_masks {H : Type} : DataW H := .agg [.lit (.int .i64 0), .lit (.int .i64 1), .lit (.int .i64 3), .lit (.int .i64 7), .lit (.int .i64 15), .lit (.int .i64 31), .lit (.int .i64 63), .lit (.int .i64 127), .lit (.int .i64 255)]

/-- 'relyguardlaw20.DecideYes': WHATEVER THE INPUT: true; the input reads as it did. -/
def decideYesSpec : ChangeSpec := { name := "decideYes", fn := fun _ => fun
  | [d1, d2, d3, d4] => { results := [.lit (.bool true)], args := [d1, d2, d3, d4] }
  | _ => none }
def decideYesRow : OpenClaim := { program := "ytinhchacppkmgaadoor", sum := "4518bc6a14044cb7eca5ecd128e1350b4d9725470028e63fa8533d60ffc2f04e", func := "relyguard/relyguardlaw20.DecideYes", spec := "decideYes", unfollowed := true, recurses := true, named := ["relyguard/expr.masks"], loops := true, apart := false, laid := [("relyguard/expr.masks", laid_relyguard_expr_masks)] }
def DecideYesSaid : Prop := decideYesRow.holds Tryd.pinned (OpenSpec.ofChange decideYesSpec)

/-- ITS FALSE NEIGHBOUR: 'it returns false'. Refute it at one input. -/
def decideYesWrong : ChangeSpec := { name := "decideYes", fn := fun _ => fun
  | [d1, d2, d3, d4] => { results := [.lit (.bool false)], args := [d1, d2, d3, d4] }
  | _ => none }
def DecideYesWrongFalsely : Prop := decideYesRow.holds Tryd.pinned (OpenSpec.ofChange decideYesWrong)

/-- 'relyguardlaw20.DecideConnectives': WHATEVER THE INPUT: true; the input reads as it did. -/
def decideConnectivesSpec : ChangeSpec := { name := "decideConnectives", fn := fun _ => fun
  | [d1, d2, d3, d4] => { results := [.lit (.bool true)], args := [d1, d2, d3, d4] }
  | _ => none }
def decideConnectivesRow : OpenClaim := { program := "ytinhchacppkmgaadoor", sum := "4518bc6a14044cb7eca5ecd128e1350b4d9725470028e63fa8533d60ffc2f04e", func := "relyguard/relyguardlaw20.DecideConnectives", spec := "decideConnectives", unfollowed := true, recurses := true, named := ["relyguard/expr.masks"], loops := true, apart := false, laid := [("relyguard/expr.masks", laid_relyguard_expr_masks)] }
def DecideConnectivesSaid : Prop := decideConnectivesRow.holds Tryd.pinned (OpenSpec.ofChange decideConnectivesSpec)

/-- ITS FALSE NEIGHBOUR: 'it returns false'. Refute it at one input. -/
def decideConnectivesWrong : ChangeSpec := { name := "decideConnectives", fn := fun _ => fun
  | [d1, d2, d3, d4] => { results := [.lit (.bool false)], args := [d1, d2, d3, d4] }
  | _ => none }
def DecideConnectivesWrongFalsely : Prop := decideConnectivesRow.holds Tryd.pinned (OpenSpec.ofChange decideConnectivesWrong)

/-- 'relyguardlaw20.DecideCut': WHATEVER THE INPUT: true; the input reads as it did. -/
def decideCutSpec : ChangeSpec := { name := "decideCut", fn := fun _ => fun
  | [d1, d2, d3, d4] => { results := [.lit (.bool true)], args := [d1, d2, d3, d4] }
  | _ => none }
def decideCutRow : OpenClaim := { program := "ytinhchacppkmgaadoor", sum := "4518bc6a14044cb7eca5ecd128e1350b4d9725470028e63fa8533d60ffc2f04e", func := "relyguard/relyguardlaw20.DecideCut", spec := "decideCut", unfollowed := true, recurses := true, named := ["relyguard/expr.masks"], loops := true, apart := false, laid := [("relyguard/expr.masks", laid_relyguard_expr_masks)] }
def DecideCutSaid : Prop := decideCutRow.holds Tryd.pinned (OpenSpec.ofChange decideCutSpec)

/-- ITS FALSE NEIGHBOUR: 'it returns false'. Refute it at one input. -/
def decideCutWrong : ChangeSpec := { name := "decideCut", fn := fun _ => fun
  | [d1, d2, d3, d4] => { results := [.lit (.bool false)], args := [d1, d2, d3, d4] }
  | _ => none }
def DecideCutWrongFalsely : Prop := decideCutRow.holds Tryd.pinned (OpenSpec.ofChange decideCutWrong)

/-- 'relyguardlaw20.DecideNo': WHATEVER THE INPUT: true; the input reads as it did. -/
def decideNoSpec : ChangeSpec := { name := "decideNo", fn := fun _ => fun
  | [d1, d2] => { results := [.lit (.bool true)], args := [d1, d2] }
  | _ => none }
def decideNoRow : OpenClaim := { program := "ytinhchacppkmgaadoor", sum := "4518bc6a14044cb7eca5ecd128e1350b4d9725470028e63fa8533d60ffc2f04e", func := "relyguard/relyguardlaw20.DecideNo", spec := "decideNo", unfollowed := true, recurses := true, named := ["relyguard/expr.masks"], loops := true, apart := false, laid := [("relyguard/expr.masks", laid_relyguard_expr_masks)] }
def DecideNoSaid : Prop := decideNoRow.holds Tryd.pinned (OpenSpec.ofChange decideNoSpec)

/-- ITS FALSE NEIGHBOUR: 'it returns false'. Refute it at one input. -/
def decideNoWrong : ChangeSpec := { name := "decideNo", fn := fun _ => fun
  | [d1, d2] => { results := [.lit (.bool false)], args := [d1, d2] }
  | _ => none }
def DecideNoWrongFalsely : Prop := decideNoRow.holds Tryd.pinned (OpenSpec.ofChange decideNoWrong)

/- THE SECOND FORM. 'bulk': how many values and letters a reading holds, each counted each time it is reached (what is shared counts as often as it is met; a slice's spare places count too). A statement '..UptoSaid' is the law's where the arguments, and the package variables that the reading takes, are together of bulk at most 1048576: NARROWER than '..Said'. Prove '..Said' where nothing that the law and all that it calls make is longer than what came in: it says more and counts as full. Else prove '..UptoSaid'. A law counts once. -/
mutual
def uptoBulk {H : Type} : DataW H → Nat
  | .lit (.string bytes) => bytes.length + 1
  | .lit _ => 1
  | .nil => 1
  | .ptr d => uptoBulk d + 1
  | .slice elems spare => uptoBulkAll elems + uptoBulkAll spare + 1
  | .agg parts => uptoBulkAll parts + 1
  | .iface _ d => uptoBulk d + 1
  | .map entries => uptoBulkEntries entries + 1
  | .held _ => 1
def uptoBulkAll {H : Type} : List (DataW H) → Nat
  | [] => 0
  | d :: r => uptoBulk d + uptoBulkAll r
def uptoBulkEntries {H : Type} : List (Lit × DataW H) → Nat
  | [] => 0
  | x :: r => uptoBulkEntry x + uptoBulkEntries r
def uptoBulkEntry {H : Type} : Lit × DataW H → Nat
  | (.string bytes, d) => bytes.length + uptoBulk d + 1
  | (_, d) => uptoBulk d + 1
 end
def uptoSmall : (H : Type) → List (DataW H) → Bool := fun _ ds => decide (uptoBulkAll ds ≤ 1048576)
def OpenSpec.upto (s : _root_.Go.ChangeSpec) : _root_.Go.OpenSpec := { _root_.Go.OpenSpec.ofChange s with cond := some uptoSmall }

/-- 'relyguardlaw20.DecideYes', WHERE WHAT IT READS IS OF BULK AT MOST 1048576: true; the input reads as it did. -/
def decideYesUptoRow : OpenClaim := { program := "ytinhchacppkmgaadoor", sum := "4518bc6a14044cb7eca5ecd128e1350b4d9725470028e63fa8533d60ffc2f04e", func := "relyguard/relyguardlaw20.DecideYes", spec := "decideYes", unfollowed := true, recurses := true, named := ["relyguard/expr.masks"], loops := true, apart := false, laid := [("relyguard/expr.masks", laid_relyguard_expr_masks)], narrowed := true }
def DecideYesUptoSaid : Prop := decideYesUptoRow.holds Tryd.pinned (OpenSpec.upto decideYesSpec)

/-- 'relyguardlaw20.DecideConnectives', WHERE WHAT IT READS IS OF BULK AT MOST 1048576: true; the input reads as it did. -/
def decideConnectivesUptoRow : OpenClaim := { program := "ytinhchacppkmgaadoor", sum := "4518bc6a14044cb7eca5ecd128e1350b4d9725470028e63fa8533d60ffc2f04e", func := "relyguard/relyguardlaw20.DecideConnectives", spec := "decideConnectives", unfollowed := true, recurses := true, named := ["relyguard/expr.masks"], loops := true, apart := false, laid := [("relyguard/expr.masks", laid_relyguard_expr_masks)], narrowed := true }
def DecideConnectivesUptoSaid : Prop := decideConnectivesUptoRow.holds Tryd.pinned (OpenSpec.upto decideConnectivesSpec)

/-- 'relyguardlaw20.DecideCut', WHERE WHAT IT READS IS OF BULK AT MOST 1048576: true; the input reads as it did. -/
def decideCutUptoRow : OpenClaim := { program := "ytinhchacppkmgaadoor", sum := "4518bc6a14044cb7eca5ecd128e1350b4d9725470028e63fa8533d60ffc2f04e", func := "relyguard/relyguardlaw20.DecideCut", spec := "decideCut", unfollowed := true, recurses := true, named := ["relyguard/expr.masks"], loops := true, apart := false, laid := [("relyguard/expr.masks", laid_relyguard_expr_masks)], narrowed := true }
def DecideCutUptoSaid : Prop := decideCutUptoRow.holds Tryd.pinned (OpenSpec.upto decideCutSpec)

/-- 'relyguardlaw20.DecideNo', WHERE WHAT IT READS IS OF BULK AT MOST 1048576: true; the input reads as it did. -/
def decideNoUptoRow : OpenClaim := { program := "ytinhchacppkmgaadoor", sum := "4518bc6a14044cb7eca5ecd128e1350b4d9725470028e63fa8533d60ffc2f04e", func := "relyguard/relyguardlaw20.DecideNo", spec := "decideNo", unfollowed := true, recurses := true, named := ["relyguard/expr.masks"], loops := true, apart := false, laid := [("relyguard/expr.masks", laid_relyguard_expr_masks)], narrowed := true }
def DecideNoUptoSaid : Prop := decideNoUptoRow.holds Tryd.pinned (OpenSpec.upto decideNoSpec)

end Rows
end Go.Proofs.YtinhchacppkmgaaDoor
