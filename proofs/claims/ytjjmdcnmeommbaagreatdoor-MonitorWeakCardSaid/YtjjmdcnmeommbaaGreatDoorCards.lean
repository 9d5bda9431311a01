/-
  DERIVED. GIVEN WITH THE SEED: THE CARDS: each row of YtjjmdcnmeommbaaGreatDoorRows.lean that lists a variable, with what it lists TIED to the program's text (the seventh form; the later family's looks); each row that meets fmt, with fmt's text TOLD by the authors' own Lean function (tested against real Go, not proved from fmt's source: count such statements apart). THE CARD IS WHAT COUNTS. Prove the row's statement (the work); the ties are given (YtjjmdcnmeommbaaGreatDoorTie.lean); close each card by the builder's one call (the guide's Derived/Test/ToyasCard.lean, 'card_holds'). Laid BY PROGRAM, IN A SANDBOX (cutbox-door.mjs). By AI agents, Wed Nov 11 2026. No macro, syntax, notation, axiom, sorry.
-/
import Derived.Test.YtjjmdcnmeommbaaGreatDoorRows
import GoSem.ClaimSeven
namespace Go.Proofs.YtjjmdcnmeommbaaGreatDoor
namespace Rows

/-- THE TIED CARD OF 'relyguardlaw33.MonitorPrefixes'. -/
def monitorPrefixesCard : Claim7 := { stood := { row := monitorPrefixesRow, standIns := [], harness := (true, "2b6c8bfadcda87ca8c5b02ebb9af5bd76ee3c057261cad102db44264a498e404"), looks := false }, kinds := [], alts := [], laidByText := true, laidKinds := [.data], laidTests := true, laidLooks := .later }
def MonitorPrefixesCardSaid : Prop := Claim7.holds Tryz.pinned (.plain (OpenSpec.ofChange monitorPrefixesSpec)) monitorPrefixesCard

/-- THE TIED CARD OF 'relyguardlaw33.MonitorBlame'. -/
def monitorBlameCard : Claim7 := { stood := { row := monitorBlameRow, standIns := [], harness := (true, "2b6c8bfadcda87ca8c5b02ebb9af5bd76ee3c057261cad102db44264a498e404"), looks := false }, kinds := [], alts := [], laidByText := true, laidKinds := [.data], laidTests := true, laidLooks := .later }
def MonitorBlameCardSaid : Prop := Claim7.holds Tryz.pinned (.plain (OpenSpec.ofChange monitorBlameSpec)) monitorBlameCard

/-- THE TIED CARD OF 'relyguardlaw33.MonitorOrder'. -/
def monitorOrderCard : Claim7 := { stood := { row := monitorOrderRow, standIns := [], harness := (true, "2b6c8bfadcda87ca8c5b02ebb9af5bd76ee3c057261cad102db44264a498e404"), looks := false }, kinds := [], alts := [], laidByText := true, laidKinds := [.data], laidTests := true, laidLooks := .later }
def MonitorOrderCardSaid : Prop := Claim7.holds Tryz.pinned (.plain (OpenSpec.ofChange monitorOrderSpec)) monitorOrderCard

/-- THE TIED CARD OF 'relyguardlaw33.MonitorAssertions'. -/
def monitorAssertionsCard : Claim7 := { stood := { row := monitorAssertionsRow, standIns := [], harness := (true, "2b6c8bfadcda87ca8c5b02ebb9af5bd76ee3c057261cad102db44264a498e404"), looks := false }, kinds := [], alts := [], laidByText := true, laidKinds := [.data], laidTests := true, laidLooks := .later }
def MonitorAssertionsCardSaid : Prop := Claim7.holds Tryz.pinned (.plain (OpenSpec.ofChange monitorAssertionsSpec)) monitorAssertionsCard

/-- THE TIED CARD OF 'relyguardlaw33.MonitorWeak'. -/
def monitorWeakCard : Claim7 := { stood := { row := monitorWeakRow, standIns := [], harness := (true, "2b6c8bfadcda87ca8c5b02ebb9af5bd76ee3c057261cad102db44264a498e404"), looks := false }, kinds := [], alts := [], laidByText := true, laidKinds := [.data], laidTests := true, laidLooks := .later }
def MonitorWeakCardSaid : Prop := Claim7.holds Tryz.pinned (.plain (OpenSpec.ofChange monitorWeakSpec)) monitorWeakCard

/-- THE TIED CARD OF 'relyguardlaw34.ShrinkMatchesReference'. -/
def shrinkMatchesReferenceCard : Claim7 := { stood := { row := shrinkMatchesReferenceRow, standIns := [], harness := (true, "2b6c8bfadcda87ca8c5b02ebb9af5bd76ee3c057261cad102db44264a498e404"), looks := false }, kinds := [], alts := [], laidByText := true, laidKinds := [.data], laidTests := true, laidLooks := .later }
def ShrinkMatchesReferenceCardSaid : Prop := Claim7.holds Tryz.pinned (.plain (OpenSpec.ofChange shrinkMatchesReferenceSpec)) shrinkMatchesReferenceCard

/-- THE TIED CARD OF 'relyguardlaw34.ShrinkSubsequence'. -/
def shrinkSubsequenceCard : Claim7 := { stood := { row := shrinkSubsequenceRow, standIns := [], harness := (true, "2b6c8bfadcda87ca8c5b02ebb9af5bd76ee3c057261cad102db44264a498e404"), looks := false }, kinds := [], alts := [], laidByText := true, laidKinds := [.data], laidTests := true, laidLooks := .later }
def ShrinkSubsequenceCardSaid : Prop := Claim7.holds Tryz.pinned (.plain (OpenSpec.ofChange shrinkSubsequenceSpec)) shrinkSubsequenceCard

/-- THE TIED CARD OF 'relyguardlaw34.ShrinkMinimal'. -/
def shrinkMinimalCard : Claim7 := { stood := { row := shrinkMinimalRow, standIns := [], harness := (true, "2b6c8bfadcda87ca8c5b02ebb9af5bd76ee3c057261cad102db44264a498e404"), looks := false }, kinds := [], alts := [], laidByText := true, laidKinds := [.data], laidTests := true, laidLooks := .later }
def ShrinkMinimalCardSaid : Prop := Claim7.holds Tryz.pinned (.plain (OpenSpec.ofChange shrinkMinimalSpec)) shrinkMinimalCard

/-- THE TIED CARD OF 'relyguardlaw34.ShrinkSuffix'. -/
def shrinkSuffixCard : Claim7 := { stood := { row := shrinkSuffixRow, standIns := [], harness := (true, "2b6c8bfadcda87ca8c5b02ebb9af5bd76ee3c057261cad102db44264a498e404"), looks := false }, kinds := [], alts := [], laidByText := true, laidKinds := [.data], laidTests := true, laidLooks := .later }
def ShrinkSuffixCardSaid : Prop := Claim7.holds Tryz.pinned (.plain (OpenSpec.ofChange shrinkSuffixSpec)) shrinkSuffixCard

/-- THE TIED CARD OF 'relyguardlaw34.ShrinkShortest'. -/
def shrinkShortestCard : Claim7 := { stood := { row := shrinkShortestRow, standIns := [], harness := (true, "2b6c8bfadcda87ca8c5b02ebb9af5bd76ee3c057261cad102db44264a498e404"), looks := false }, kinds := [], alts := [], laidByText := true, laidKinds := [.data], laidTests := true, laidLooks := .later }
def ShrinkShortestCardSaid : Prop := Claim7.holds Tryz.pinned (.plain (OpenSpec.ofChange shrinkShortestSpec)) shrinkShortestCard

/-- THE SECOND FORM's CARD OF 'relyguardlaw33.MonitorPrefixes'. -/
def monitorPrefixesUptoCard : Claim7 := { stood := { row := monitorPrefixesUptoRow, standIns := [], harness := (true, "2b6c8bfadcda87ca8c5b02ebb9af5bd76ee3c057261cad102db44264a498e404"), looks := false }, kinds := [], alts := [], laidByText := true, laidKinds := [.data], laidTests := true, laidLooks := .later }
def MonitorPrefixesUptoCardSaid : Prop := Claim7.holds Tryz.pinned (.plain (OpenSpec.upto monitorPrefixesSpec)) monitorPrefixesUptoCard

/-- THE SECOND FORM's CARD OF 'relyguardlaw33.MonitorBlame'. -/
def monitorBlameUptoCard : Claim7 := { stood := { row := monitorBlameUptoRow, standIns := [], harness := (true, "2b6c8bfadcda87ca8c5b02ebb9af5bd76ee3c057261cad102db44264a498e404"), looks := false }, kinds := [], alts := [], laidByText := true, laidKinds := [.data], laidTests := true, laidLooks := .later }
def MonitorBlameUptoCardSaid : Prop := Claim7.holds Tryz.pinned (.plain (OpenSpec.upto monitorBlameSpec)) monitorBlameUptoCard

/-- THE SECOND FORM's CARD OF 'relyguardlaw33.MonitorOrder'. -/
def monitorOrderUptoCard : Claim7 := { stood := { row := monitorOrderUptoRow, standIns := [], harness := (true, "2b6c8bfadcda87ca8c5b02ebb9af5bd76ee3c057261cad102db44264a498e404"), looks := false }, kinds := [], alts := [], laidByText := true, laidKinds := [.data], laidTests := true, laidLooks := .later }
def MonitorOrderUptoCardSaid : Prop := Claim7.holds Tryz.pinned (.plain (OpenSpec.upto monitorOrderSpec)) monitorOrderUptoCard

/-- THE SECOND FORM's CARD OF 'relyguardlaw33.MonitorAssertions'. -/
def monitorAssertionsUptoCard : Claim7 := { stood := { row := monitorAssertionsUptoRow, standIns := [], harness := (true, "2b6c8bfadcda87ca8c5b02ebb9af5bd76ee3c057261cad102db44264a498e404"), looks := false }, kinds := [], alts := [], laidByText := true, laidKinds := [.data], laidTests := true, laidLooks := .later }
def MonitorAssertionsUptoCardSaid : Prop := Claim7.holds Tryz.pinned (.plain (OpenSpec.upto monitorAssertionsSpec)) monitorAssertionsUptoCard

/-- THE SECOND FORM's CARD OF 'relyguardlaw33.MonitorWeak'. -/
def monitorWeakUptoCard : Claim7 := { stood := { row := monitorWeakUptoRow, standIns := [], harness := (true, "2b6c8bfadcda87ca8c5b02ebb9af5bd76ee3c057261cad102db44264a498e404"), looks := false }, kinds := [], alts := [], laidByText := true, laidKinds := [.data], laidTests := true, laidLooks := .later }
def MonitorWeakUptoCardSaid : Prop := Claim7.holds Tryz.pinned (.plain (OpenSpec.upto monitorWeakSpec)) monitorWeakUptoCard

/-- THE SECOND FORM's CARD OF 'relyguardlaw34.ShrinkMatchesReference'. -/
def shrinkMatchesReferenceUptoCard : Claim7 := { stood := { row := shrinkMatchesReferenceUptoRow, standIns := [], harness := (true, "2b6c8bfadcda87ca8c5b02ebb9af5bd76ee3c057261cad102db44264a498e404"), looks := false }, kinds := [], alts := [], laidByText := true, laidKinds := [.data], laidTests := true, laidLooks := .later }
def ShrinkMatchesReferenceUptoCardSaid : Prop := Claim7.holds Tryz.pinned (.plain (OpenSpec.upto shrinkMatchesReferenceSpec)) shrinkMatchesReferenceUptoCard

/-- THE SECOND FORM's CARD OF 'relyguardlaw34.ShrinkSubsequence'. -/
def shrinkSubsequenceUptoCard : Claim7 := { stood := { row := shrinkSubsequenceUptoRow, standIns := [], harness := (true, "2b6c8bfadcda87ca8c5b02ebb9af5bd76ee3c057261cad102db44264a498e404"), looks := false }, kinds := [], alts := [], laidByText := true, laidKinds := [.data], laidTests := true, laidLooks := .later }
def ShrinkSubsequenceUptoCardSaid : Prop := Claim7.holds Tryz.pinned (.plain (OpenSpec.upto shrinkSubsequenceSpec)) shrinkSubsequenceUptoCard

/-- THE SECOND FORM's CARD OF 'relyguardlaw34.ShrinkMinimal'. -/
def shrinkMinimalUptoCard : Claim7 := { stood := { row := shrinkMinimalUptoRow, standIns := [], harness := (true, "2b6c8bfadcda87ca8c5b02ebb9af5bd76ee3c057261cad102db44264a498e404"), looks := false }, kinds := [], alts := [], laidByText := true, laidKinds := [.data], laidTests := true, laidLooks := .later }
def ShrinkMinimalUptoCardSaid : Prop := Claim7.holds Tryz.pinned (.plain (OpenSpec.upto shrinkMinimalSpec)) shrinkMinimalUptoCard

/-- THE SECOND FORM's CARD OF 'relyguardlaw34.ShrinkSuffix'. -/
def shrinkSuffixUptoCard : Claim7 := { stood := { row := shrinkSuffixUptoRow, standIns := [], harness := (true, "2b6c8bfadcda87ca8c5b02ebb9af5bd76ee3c057261cad102db44264a498e404"), looks := false }, kinds := [], alts := [], laidByText := true, laidKinds := [.data], laidTests := true, laidLooks := .later }
def ShrinkSuffixUptoCardSaid : Prop := Claim7.holds Tryz.pinned (.plain (OpenSpec.upto shrinkSuffixSpec)) shrinkSuffixUptoCard

/-- THE SECOND FORM's CARD OF 'relyguardlaw34.ShrinkShortest'. -/
def shrinkShortestUptoCard : Claim7 := { stood := { row := shrinkShortestUptoRow, standIns := [], harness := (true, "2b6c8bfadcda87ca8c5b02ebb9af5bd76ee3c057261cad102db44264a498e404"), looks := false }, kinds := [], alts := [], laidByText := true, laidKinds := [.data], laidTests := true, laidLooks := .later }
def ShrinkShortestUptoCardSaid : Prop := Claim7.holds Tryz.pinned (.plain (OpenSpec.upto shrinkShortestSpec)) shrinkShortestUptoCard
end Rows
end Go.Proofs.YtjjmdcnmeommbaaGreatDoor
