/-
  DERIVED. GIVEN WITH THE SEED: THE CARDS: each row of YtepiknjglmmciaaGreatDoorRows.lean that lists a variable, with what it lists TIED to the program's text (the seventh form; the later family's looks); each row that meets fmt, with fmt's text TOLD by the authors' own Lean function (tested against real Go, not proved from fmt's source: count such statements apart). THE CARD IS WHAT COUNTS. Prove the row's statement (the work); the ties are given (YtepiknjglmmciaaGreatDoorTie.lean); close each card by the builder's one call (the guide's Derived/Test/ToyasCard.lean, 'card_holds'). Laid BY PROGRAM, IN A SANDBOX (cutbox-door.mjs). By AI agents, Wed Nov 11 2026. No macro, syntax, notation, axiom, sorry.
-/
import Derived.Test.YtepiknjglmmciaaGreatDoorRows
import GoSem.ClaimSeven
namespace Go.Proofs.YtepiknjglmmciaaGreatDoor
namespace Rows

/-- THE TIED CARD OF 'relyguardlaw14.ExploreClosure'. -/
def exploreClosureCard : Claim7 := { stood := { row := exploreClosureRow, standIns := [], harness := (true, "37c2f092f5f1707ed04e840cccc57c12ea8735176e887b0f79f2c7fded18761e"), looks := false }, kinds := [], alts := [], laidByText := true, laidKinds := [.data], laidTests := true, laidLooks := .later }
def ExploreClosureCardSaid : Prop := Claim7.holds Tryz.pinned (.plain (OpenSpec.ofChange exploreClosureSpec)) exploreClosureCard

/-- THE TIED CARD OF 'relyguardlaw14.ExploreModels'. -/
def exploreModelsCard : Claim7 := { stood := { row := exploreModelsRow, standIns := [], harness := (true, "37c2f092f5f1707ed04e840cccc57c12ea8735176e887b0f79f2c7fded18761e"), looks := false }, kinds := [], alts := [], laidByText := true, laidKinds := [.data], laidTests := true, laidLooks := .later }
def ExploreModelsCardSaid : Prop := Claim7.holds Tryz.pinned (.plain (OpenSpec.ofChange exploreModelsSpec)) exploreModelsCard

/-- THE TIED CARD OF 'relyguardlaw14.ExploreLimit'. -/
def exploreLimitCard : Claim7 := { stood := { row := exploreLimitRow, standIns := [], harness := (true, "37c2f092f5f1707ed04e840cccc57c12ea8735176e887b0f79f2c7fded18761e"), looks := false }, kinds := [], alts := [], laidByText := true, laidKinds := [.data], laidTests := true, laidLooks := .later }
def ExploreLimitCardSaid : Prop := Claim7.holds Tryz.pinned (.plain (OpenSpec.ofChange exploreLimitSpec)) exploreLimitCard

/-- THE SECOND FORM's CARD OF 'relyguardlaw14.ExploreClosure'. -/
def exploreClosureUptoCard : Claim7 := { stood := { row := exploreClosureUptoRow, standIns := [], harness := (true, "37c2f092f5f1707ed04e840cccc57c12ea8735176e887b0f79f2c7fded18761e"), looks := false }, kinds := [], alts := [], laidByText := true, laidKinds := [.data], laidTests := true, laidLooks := .later }
def ExploreClosureUptoCardSaid : Prop := Claim7.holds Tryz.pinned (.plain (OpenSpec.upto exploreClosureSpec)) exploreClosureUptoCard

/-- THE SECOND FORM's CARD OF 'relyguardlaw14.ExploreModels'. -/
def exploreModelsUptoCard : Claim7 := { stood := { row := exploreModelsUptoRow, standIns := [], harness := (true, "37c2f092f5f1707ed04e840cccc57c12ea8735176e887b0f79f2c7fded18761e"), looks := false }, kinds := [], alts := [], laidByText := true, laidKinds := [.data], laidTests := true, laidLooks := .later }
def ExploreModelsUptoCardSaid : Prop := Claim7.holds Tryz.pinned (.plain (OpenSpec.upto exploreModelsSpec)) exploreModelsUptoCard

/-- THE SECOND FORM's CARD OF 'relyguardlaw14.ExploreLimit'. -/
def exploreLimitUptoCard : Claim7 := { stood := { row := exploreLimitUptoRow, standIns := [], harness := (true, "37c2f092f5f1707ed04e840cccc57c12ea8735176e887b0f79f2c7fded18761e"), looks := false }, kinds := [], alts := [], laidByText := true, laidKinds := [.data], laidTests := true, laidLooks := .later }
def ExploreLimitUptoCardSaid : Prop := Claim7.holds Tryz.pinned (.plain (OpenSpec.upto exploreLimitSpec)) exploreLimitUptoCard
end Rows
end Go.Proofs.YtepiknjglmmciaaGreatDoor
