/-
  DERIVED. GIVEN WITH THE SEED: THE CARDS: each row of YtlegngbbcckmnaaGreatDoorRows.lean that lists a variable, with what it lists TIED to the program's text (the seventh form; the later family's looks); each row that meets fmt, with fmt's text TOLD by the authors' own Lean function (tested against real Go, not proved from fmt's source: count such statements apart). THE CARD IS WHAT COUNTS. Prove the row's statement (the work); the ties are given (YtlegngbbcckmnaaGreatDoorTie.lean); close each card by the builder's one call (the guide's Derived/Test/ToyasCard.lean, 'card_holds'). Laid BY PROGRAM, IN A SANDBOX (cutbox-door.mjs). By AI agents, Wed Nov 11 2026. No macro, syntax, notation, axiom, sorry.
-/
import Derived.Test.YtlegngbbcckmnaaGreatDoorRows
import GoSem.ClaimSeven
namespace Go.Proofs.YtlegngbbcckmnaaGreatDoor
namespace Rows

/-- THE TIED CARD OF 'relyguardlaw16.InterfereMatchesReference'. -/
def interfereMatchesReferenceCard : Claim7 := { stood := { row := interfereMatchesReferenceRow, standIns := [], harness := (true, "21adccedb12a50cd7624608448308e4d94217f4d0c31762048ff324627763efc"), looks := false }, kinds := [], alts := [], laidByText := true, laidKinds := [.data, .data, .data, .data, .data], laidTests := true, laidLooks := .later }
def InterfereMatchesReferenceCardSaid : Prop := Claim7.holds Tryz.pinned (.plain (OpenSpec.ofChange interfereMatchesReferenceSpec)) interfereMatchesReferenceCard

/-- THE TIED CARD OF 'relyguardlaw16.InterfereStep'. -/
def interfereStepCard : Claim7 := { stood := { row := interfereStepRow, standIns := [], harness := (true, "21adccedb12a50cd7624608448308e4d94217f4d0c31762048ff324627763efc"), looks := false }, kinds := [], alts := [], laidByText := true, laidKinds := [.data, .data, .data, .data, .data], laidTests := true, laidLooks := .later }
def InterfereStepCardSaid : Prop := Claim7.holds Tryz.pinned (.plain (OpenSpec.ofChange interfereStepSpec)) interfereStepCard

/-- THE TIED CARD OF 'relyguardlaw16.InterfereRuns'. -/
def interfereRunsCard : Claim7 := { stood := { row := interfereRunsRow, standIns := [], harness := (true, "21adccedb12a50cd7624608448308e4d94217f4d0c31762048ff324627763efc"), looks := false }, kinds := [], alts := [], laidByText := true, laidKinds := [.data, .data, .data, .data, .data], laidTests := true, laidLooks := .later }
def InterfereRunsCardSaid : Prop := Claim7.holds Tryz.pinned (.plain (OpenSpec.ofChange interfereRunsSpec)) interfereRunsCard

/-- THE TIED CARD OF 'relyguardlaw16.InterfereOrder'. -/
def interfereOrderCard : Claim7 := { stood := { row := interfereOrderRow, standIns := [], harness := (true, "21adccedb12a50cd7624608448308e4d94217f4d0c31762048ff324627763efc"), looks := false }, kinds := [], alts := [], laidByText := true, laidKinds := [.data, .data, .data, .data, .data], laidTests := true, laidLooks := .later }
def InterfereOrderCardSaid : Prop := Claim7.holds Tryz.pinned (.plain (OpenSpec.ofChange interfereOrderSpec)) interfereOrderCard

/-- THE TIED CARD OF 'relyguardlaw16.InterfereFrames'. -/
def interfereFramesCard : Claim7 := { stood := { row := interfereFramesRow, standIns := [], harness := (true, "21adccedb12a50cd7624608448308e4d94217f4d0c31762048ff324627763efc"), looks := false }, kinds := [], alts := [], laidByText := true, laidKinds := [.data, .data, .data, .data, .data], laidTests := true, laidLooks := .later }
def InterfereFramesCardSaid : Prop := Claim7.holds Tryz.pinned (.plain (OpenSpec.ofChange interfereFramesSpec)) interfereFramesCard

/-- THE TIED CARD OF 'relyguardlaw16.InterferePairs'. -/
def interferePairsCard : Claim7 := { stood := { row := interferePairsRow, standIns := [], harness := (true, "21adccedb12a50cd7624608448308e4d94217f4d0c31762048ff324627763efc"), looks := false }, kinds := [], alts := [], laidByText := true, laidKinds := [.data, .data, .data, .data, .data], laidTests := true, laidLooks := .later }
def InterferePairsCardSaid : Prop := Claim7.holds Tryz.pinned (.plain (OpenSpec.ofChange interferePairsSpec)) interferePairsCard

/-- THE TIED CARD OF 'relyguardlaw16.InterfereRestriction'. -/
def interfereRestrictionCard : Claim7 := { stood := { row := interfereRestrictionRow, standIns := [], harness := (true, "21adccedb12a50cd7624608448308e4d94217f4d0c31762048ff324627763efc"), looks := false }, kinds := [], alts := [], laidByText := true, laidKinds := [.data, .data, .data, .data, .data], laidTests := true, laidLooks := .later }
def InterfereRestrictionCardSaid : Prop := Claim7.holds Tryz.pinned (.plain (OpenSpec.ofChange interfereRestrictionSpec)) interfereRestrictionCard

/-- THE SECOND FORM's CARD OF 'relyguardlaw16.InterfereMatchesReference'. -/
def interfereMatchesReferenceUptoCard : Claim7 := { stood := { row := interfereMatchesReferenceUptoRow, standIns := [], harness := (true, "21adccedb12a50cd7624608448308e4d94217f4d0c31762048ff324627763efc"), looks := false }, kinds := [], alts := [], laidByText := true, laidKinds := [.data, .data, .data, .data, .data], laidTests := true, laidLooks := .later }
def InterfereMatchesReferenceUptoCardSaid : Prop := Claim7.holds Tryz.pinned (.plain (OpenSpec.upto interfereMatchesReferenceSpec)) interfereMatchesReferenceUptoCard

/-- THE SECOND FORM's CARD OF 'relyguardlaw16.InterfereStep'. -/
def interfereStepUptoCard : Claim7 := { stood := { row := interfereStepUptoRow, standIns := [], harness := (true, "21adccedb12a50cd7624608448308e4d94217f4d0c31762048ff324627763efc"), looks := false }, kinds := [], alts := [], laidByText := true, laidKinds := [.data, .data, .data, .data, .data], laidTests := true, laidLooks := .later }
def InterfereStepUptoCardSaid : Prop := Claim7.holds Tryz.pinned (.plain (OpenSpec.upto interfereStepSpec)) interfereStepUptoCard

/-- THE SECOND FORM's CARD OF 'relyguardlaw16.InterfereRuns'. -/
def interfereRunsUptoCard : Claim7 := { stood := { row := interfereRunsUptoRow, standIns := [], harness := (true, "21adccedb12a50cd7624608448308e4d94217f4d0c31762048ff324627763efc"), looks := false }, kinds := [], alts := [], laidByText := true, laidKinds := [.data, .data, .data, .data, .data], laidTests := true, laidLooks := .later }
def InterfereRunsUptoCardSaid : Prop := Claim7.holds Tryz.pinned (.plain (OpenSpec.upto interfereRunsSpec)) interfereRunsUptoCard

/-- THE SECOND FORM's CARD OF 'relyguardlaw16.InterfereOrder'. -/
def interfereOrderUptoCard : Claim7 := { stood := { row := interfereOrderUptoRow, standIns := [], harness := (true, "21adccedb12a50cd7624608448308e4d94217f4d0c31762048ff324627763efc"), looks := false }, kinds := [], alts := [], laidByText := true, laidKinds := [.data, .data, .data, .data, .data], laidTests := true, laidLooks := .later }
def InterfereOrderUptoCardSaid : Prop := Claim7.holds Tryz.pinned (.plain (OpenSpec.upto interfereOrderSpec)) interfereOrderUptoCard

/-- THE SECOND FORM's CARD OF 'relyguardlaw16.InterfereFrames'. -/
def interfereFramesUptoCard : Claim7 := { stood := { row := interfereFramesUptoRow, standIns := [], harness := (true, "21adccedb12a50cd7624608448308e4d94217f4d0c31762048ff324627763efc"), looks := false }, kinds := [], alts := [], laidByText := true, laidKinds := [.data, .data, .data, .data, .data], laidTests := true, laidLooks := .later }
def InterfereFramesUptoCardSaid : Prop := Claim7.holds Tryz.pinned (.plain (OpenSpec.upto interfereFramesSpec)) interfereFramesUptoCard

/-- THE SECOND FORM's CARD OF 'relyguardlaw16.InterferePairs'. -/
def interferePairsUptoCard : Claim7 := { stood := { row := interferePairsUptoRow, standIns := [], harness := (true, "21adccedb12a50cd7624608448308e4d94217f4d0c31762048ff324627763efc"), looks := false }, kinds := [], alts := [], laidByText := true, laidKinds := [.data, .data, .data, .data, .data], laidTests := true, laidLooks := .later }
def InterferePairsUptoCardSaid : Prop := Claim7.holds Tryz.pinned (.plain (OpenSpec.upto interferePairsSpec)) interferePairsUptoCard

/-- THE SECOND FORM's CARD OF 'relyguardlaw16.InterfereRestriction'. -/
def interfereRestrictionUptoCard : Claim7 := { stood := { row := interfereRestrictionUptoRow, standIns := [], harness := (true, "21adccedb12a50cd7624608448308e4d94217f4d0c31762048ff324627763efc"), looks := false }, kinds := [], alts := [], laidByText := true, laidKinds := [.data, .data, .data, .data, .data], laidTests := true, laidLooks := .later }
def InterfereRestrictionUptoCardSaid : Prop := Claim7.holds Tryz.pinned (.plain (OpenSpec.upto interfereRestrictionSpec)) interfereRestrictionUptoCard
end Rows
end Go.Proofs.YtlegngbbcckmnaaGreatDoor
