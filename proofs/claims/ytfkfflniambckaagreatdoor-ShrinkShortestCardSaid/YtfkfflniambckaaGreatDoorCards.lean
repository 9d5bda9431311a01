/-
  DERIVED. GIVEN WITH THE SEED: THE CARDS: each row of YtfkfflniambckaaGreatDoorRows.lean that lists a variable, with what it lists TIED to the program's text (the seventh form; the later family's looks); each row that meets fmt, with fmt's text TOLD by the authors' own Lean function (tested against real Go, not proved from fmt's source: count such statements apart). THE CARD IS WHAT COUNTS. Prove the row's statement (the work); the ties are given (YtfkfflniambckaaGreatDoorTie.lean); close each card by the builder's one call (the guide's Derived/Test/ToyasCard.lean, 'card_holds'). Laid BY PROGRAM, IN A SANDBOX (cutbox-door.mjs). By AI agents, Wed Nov 11 2026. No macro, syntax, notation, axiom, sorry.
-/
import Derived.Test.YtfkfflniambckaaGreatDoorRows
import GoSem.ClaimSeven
namespace Go.Proofs.YtfkfflniambckaaGreatDoor
namespace Rows

/-- THE TIED CARD OF 'relyguardlaw14.ExploreClosure'. -/
def exploreClosureCard : Claim7 := { stood := { row := exploreClosureRow, standIns := [], harness := (true, "438398057fcef9deb9298f006321ee0fb5ef75a63490a5f9d201aadfe63effdb"), looks := false }, kinds := [], alts := [], laidByText := true, laidKinds := [.data], laidTests := true, laidLooks := .later }
def ExploreClosureCardSaid : Prop := Claim7.holds Tryz.pinned (.plain (OpenSpec.ofChange exploreClosureSpec)) exploreClosureCard

/-- THE TIED CARD OF 'relyguardlaw34.ShrinkMatchesReference'. -/
def shrinkMatchesReferenceCard : Claim7 := { stood := { row := shrinkMatchesReferenceRow, standIns := [], harness := (true, "438398057fcef9deb9298f006321ee0fb5ef75a63490a5f9d201aadfe63effdb"), looks := false }, kinds := [], alts := [], laidByText := true, laidKinds := [.data], laidTests := true, laidLooks := .later }
def ShrinkMatchesReferenceCardSaid : Prop := Claim7.holds Tryz.pinned (.plain (OpenSpec.ofChange shrinkMatchesReferenceSpec)) shrinkMatchesReferenceCard

/-- THE TIED CARD OF 'relyguardlaw34.ShrinkSubsequence'. -/
def shrinkSubsequenceCard : Claim7 := { stood := { row := shrinkSubsequenceRow, standIns := [], harness := (true, "438398057fcef9deb9298f006321ee0fb5ef75a63490a5f9d201aadfe63effdb"), looks := false }, kinds := [], alts := [], laidByText := true, laidKinds := [.data], laidTests := true, laidLooks := .later }
def ShrinkSubsequenceCardSaid : Prop := Claim7.holds Tryz.pinned (.plain (OpenSpec.ofChange shrinkSubsequenceSpec)) shrinkSubsequenceCard

/-- THE TIED CARD OF 'relyguardlaw34.ShrinkMinimal'. -/
def shrinkMinimalCard : Claim7 := { stood := { row := shrinkMinimalRow, standIns := [], harness := (true, "438398057fcef9deb9298f006321ee0fb5ef75a63490a5f9d201aadfe63effdb"), looks := false }, kinds := [], alts := [], laidByText := true, laidKinds := [.data], laidTests := true, laidLooks := .later }
def ShrinkMinimalCardSaid : Prop := Claim7.holds Tryz.pinned (.plain (OpenSpec.ofChange shrinkMinimalSpec)) shrinkMinimalCard

/-- THE TIED CARD OF 'relyguardlaw34.ShrinkShortest'. -/
def shrinkShortestCard : Claim7 := { stood := { row := shrinkShortestRow, standIns := [], harness := (true, "438398057fcef9deb9298f006321ee0fb5ef75a63490a5f9d201aadfe63effdb"), looks := false }, kinds := [], alts := [], laidByText := true, laidKinds := [.data], laidTests := true, laidLooks := .later }
def ShrinkShortestCardSaid : Prop := Claim7.holds Tryz.pinned (.plain (OpenSpec.ofChange shrinkShortestSpec)) shrinkShortestCard

/-- THE SECOND FORM's CARD OF 'relyguardlaw14.ExploreClosure'. -/
def exploreClosureUptoCard : Claim7 := { stood := { row := exploreClosureUptoRow, standIns := [], harness := (true, "438398057fcef9deb9298f006321ee0fb5ef75a63490a5f9d201aadfe63effdb"), looks := false }, kinds := [], alts := [], laidByText := true, laidKinds := [.data], laidTests := true, laidLooks := .later }
def ExploreClosureUptoCardSaid : Prop := Claim7.holds Tryz.pinned (.plain (OpenSpec.upto exploreClosureSpec)) exploreClosureUptoCard

/-- THE SECOND FORM's CARD OF 'relyguardlaw34.ShrinkMatchesReference'. -/
def shrinkMatchesReferenceUptoCard : Claim7 := { stood := { row := shrinkMatchesReferenceUptoRow, standIns := [], harness := (true, "438398057fcef9deb9298f006321ee0fb5ef75a63490a5f9d201aadfe63effdb"), looks := false }, kinds := [], alts := [], laidByText := true, laidKinds := [.data], laidTests := true, laidLooks := .later }
def ShrinkMatchesReferenceUptoCardSaid : Prop := Claim7.holds Tryz.pinned (.plain (OpenSpec.upto shrinkMatchesReferenceSpec)) shrinkMatchesReferenceUptoCard

/-- THE SECOND FORM's CARD OF 'relyguardlaw34.ShrinkSubsequence'. -/
def shrinkSubsequenceUptoCard : Claim7 := { stood := { row := shrinkSubsequenceUptoRow, standIns := [], harness := (true, "438398057fcef9deb9298f006321ee0fb5ef75a63490a5f9d201aadfe63effdb"), looks := false }, kinds := [], alts := [], laidByText := true, laidKinds := [.data], laidTests := true, laidLooks := .later }
def ShrinkSubsequenceUptoCardSaid : Prop := Claim7.holds Tryz.pinned (.plain (OpenSpec.upto shrinkSubsequenceSpec)) shrinkSubsequenceUptoCard

/-- THE SECOND FORM's CARD OF 'relyguardlaw34.ShrinkMinimal'. -/
def shrinkMinimalUptoCard : Claim7 := { stood := { row := shrinkMinimalUptoRow, standIns := [], harness := (true, "438398057fcef9deb9298f006321ee0fb5ef75a63490a5f9d201aadfe63effdb"), looks := false }, kinds := [], alts := [], laidByText := true, laidKinds := [.data], laidTests := true, laidLooks := .later }
def ShrinkMinimalUptoCardSaid : Prop := Claim7.holds Tryz.pinned (.plain (OpenSpec.upto shrinkMinimalSpec)) shrinkMinimalUptoCard

/-- THE SECOND FORM's CARD OF 'relyguardlaw34.ShrinkShortest'. -/
def shrinkShortestUptoCard : Claim7 := { stood := { row := shrinkShortestUptoRow, standIns := [], harness := (true, "438398057fcef9deb9298f006321ee0fb5ef75a63490a5f9d201aadfe63effdb"), looks := false }, kinds := [], alts := [], laidByText := true, laidKinds := [.data], laidTests := true, laidLooks := .later }
def ShrinkShortestUptoCardSaid : Prop := Claim7.holds Tryz.pinned (.plain (OpenSpec.upto shrinkShortestSpec)) shrinkShortestUptoCard
end Rows
end Go.Proofs.YtfkfflniambckaaGreatDoor
