/-
  DERIVED. GIVEN WITH THE SEED: THE CARDS: each row of YtinhchacppkmgaaDoorRows.lean that lists a variable, with what it lists TIED to the program's text (the seventh form; the later family's looks); each row that meets fmt, with fmt's text TOLD by the authors' own Lean function (tested against real Go, not proved from fmt's source: count such statements apart). THE CARD IS WHAT COUNTS. Prove the row's statement (the work); the ties are given (YtinhchacppkmgaaDoorTie.lean); close each card by the builder's one call (the guide's Derived/Test/ToyasCard.lean, 'card_holds'). Laid BY PROGRAM, IN A SANDBOX (cutbox-door.mjs). By AI agents, Wed Nov 11 2026. No macro, syntax, notation, axiom, sorry.
-/
import Derived.Test.YtinhchacppkmgaaDoorRows
import GoSem.ClaimSeven
namespace Go.Proofs.YtinhchacppkmgaaDoor
namespace Rows

/-- THE TIED CARD OF 'relyguardlaw20.DecideYes'. -/
def decideYesCard : Claim7 := { stood := { row := decideYesRow, standIns := [], harness := (true, "a92c398b6658e56e7711b03cf615816e30941b1b75dbb5548e54fc54eac4f052"), looks := false }, kinds := [], alts := [], laidByText := true, laidKinds := [.data], laidTests := true, laidLooks := .later }
def DecideYesCardSaid : Prop := Claim7.holds Tryd.pinned (.plain (OpenSpec.ofChange decideYesSpec)) decideYesCard

/-- THE TIED CARD OF 'relyguardlaw20.DecideConnectives'. -/
def decideConnectivesCard : Claim7 := { stood := { row := decideConnectivesRow, standIns := [], harness := (true, "a92c398b6658e56e7711b03cf615816e30941b1b75dbb5548e54fc54eac4f052"), looks := false }, kinds := [], alts := [], laidByText := true, laidKinds := [.data], laidTests := true, laidLooks := .later }
def DecideConnectivesCardSaid : Prop := Claim7.holds Tryd.pinned (.plain (OpenSpec.ofChange decideConnectivesSpec)) decideConnectivesCard

/-- THE TIED CARD OF 'relyguardlaw20.DecideCut'. -/
def decideCutCard : Claim7 := { stood := { row := decideCutRow, standIns := [], harness := (true, "a92c398b6658e56e7711b03cf615816e30941b1b75dbb5548e54fc54eac4f052"), looks := false }, kinds := [], alts := [], laidByText := true, laidKinds := [.data], laidTests := true, laidLooks := .later }
def DecideCutCardSaid : Prop := Claim7.holds Tryd.pinned (.plain (OpenSpec.ofChange decideCutSpec)) decideCutCard

/-- THE TIED CARD OF 'relyguardlaw20.DecideNo'. -/
def decideNoCard : Claim7 := { stood := { row := decideNoRow, standIns := [], harness := (true, "a92c398b6658e56e7711b03cf615816e30941b1b75dbb5548e54fc54eac4f052"), looks := false }, kinds := [], alts := [], laidByText := true, laidKinds := [.data], laidTests := true, laidLooks := .later }
def DecideNoCardSaid : Prop := Claim7.holds Tryd.pinned (.plain (OpenSpec.ofChange decideNoSpec)) decideNoCard

/-- THE SECOND FORM's CARD OF 'relyguardlaw20.DecideYes'. -/
def decideYesUptoCard : Claim7 := { stood := { row := decideYesUptoRow, standIns := [], harness := (true, "a92c398b6658e56e7711b03cf615816e30941b1b75dbb5548e54fc54eac4f052"), looks := false }, kinds := [], alts := [], laidByText := true, laidKinds := [.data], laidTests := true, laidLooks := .later }
def DecideYesUptoCardSaid : Prop := Claim7.holds Tryd.pinned (.plain (OpenSpec.upto decideYesSpec)) decideYesUptoCard

/-- THE SECOND FORM's CARD OF 'relyguardlaw20.DecideConnectives'. -/
def decideConnectivesUptoCard : Claim7 := { stood := { row := decideConnectivesUptoRow, standIns := [], harness := (true, "a92c398b6658e56e7711b03cf615816e30941b1b75dbb5548e54fc54eac4f052"), looks := false }, kinds := [], alts := [], laidByText := true, laidKinds := [.data], laidTests := true, laidLooks := .later }
def DecideConnectivesUptoCardSaid : Prop := Claim7.holds Tryd.pinned (.plain (OpenSpec.upto decideConnectivesSpec)) decideConnectivesUptoCard

/-- THE SECOND FORM's CARD OF 'relyguardlaw20.DecideCut'. -/
def decideCutUptoCard : Claim7 := { stood := { row := decideCutUptoRow, standIns := [], harness := (true, "a92c398b6658e56e7711b03cf615816e30941b1b75dbb5548e54fc54eac4f052"), looks := false }, kinds := [], alts := [], laidByText := true, laidKinds := [.data], laidTests := true, laidLooks := .later }
def DecideCutUptoCardSaid : Prop := Claim7.holds Tryd.pinned (.plain (OpenSpec.upto decideCutSpec)) decideCutUptoCard

/-- THE SECOND FORM's CARD OF 'relyguardlaw20.DecideNo'. -/
def decideNoUptoCard : Claim7 := { stood := { row := decideNoUptoRow, standIns := [], harness := (true, "a92c398b6658e56e7711b03cf615816e30941b1b75dbb5548e54fc54eac4f052"), looks := false }, kinds := [], alts := [], laidByText := true, laidKinds := [.data], laidTests := true, laidLooks := .later }
def DecideNoUptoCardSaid : Prop := Claim7.holds Tryd.pinned (.plain (OpenSpec.upto decideNoSpec)) decideNoUptoCard
end Rows
end Go.Proofs.YtinhchacppkmgaaDoor
