/-
  DERIVED. GIVEN WITH THE SEED: THE CARDS: each row of YtgjenhndpfcjkaaGreatDoorRows.lean that lists a variable, with what it lists TIED to the program's text (the seventh form; the later family's looks); each row that meets fmt, with fmt's text TOLD by the authors' own Lean function (tested against real Go, not proved from fmt's source: count such statements apart). THE CARD IS WHAT COUNTS. Prove the row's statement (the work); the ties are given (YtgjenhndpfcjkaaGreatDoorTie.lean); close each card by the builder's one call (the guide's Derived/Test/ToyasCard.lean, 'card_holds'). Laid BY PROGRAM, IN A SANDBOX (cutbox-door.mjs). By AI agents, Wed Nov 11 2026. No macro, syntax, notation, axiom, sorry.
-/
import Derived.Test.YtgjenhndpfcjkaaGreatDoorRows
import GoSem.ClaimSeven
namespace Go.Proofs.YtgjenhndpfcjkaaGreatDoor
namespace Rows

/-- THE TIED CARD OF 'relyguardlaw34.ShrinkMatchesReference'. -/
def shrinkMatchesReferenceCard : Claim7 := { stood := { row := shrinkMatchesReferenceRow, standIns := [], harness := (true, "d827dacee09df36c4868b6dbc385964909a482b1d5ea863e1be5d9fa2eebc58f"), looks := false }, kinds := [], alts := [], laidByText := true, laidKinds := [.data], laidTests := true, laidLooks := .later }
def ShrinkMatchesReferenceCardSaid : Prop := Claim7.holds Tryz.pinned (.plain (OpenSpec.ofChange shrinkMatchesReferenceSpec)) shrinkMatchesReferenceCard

/-- THE TIED CARD OF 'relyguardlaw17.InferInterference'. -/
def inferInterferenceCard : Claim7 := { stood := { row := inferInterferenceRow, standIns := [], harness := (true, "d827dacee09df36c4868b6dbc385964909a482b1d5ea863e1be5d9fa2eebc58f"), looks := false }, kinds := [], alts := [], laidByText := true, laidKinds := [.data, .data, .data, .data, .data], laidTests := true, laidLooks := .later }
def InferInterferenceCardSaid : Prop := Claim7.holds Tryz.pinned (.plain (OpenSpec.ofChange inferInterferenceSpec)) inferInterferenceCard

/-- THE TIED CARD OF 'relyguardlaw17.InferFewer'. -/
def inferFewerCard : Claim7 := { stood := { row := inferFewerRow, standIns := [], harness := (true, "d827dacee09df36c4868b6dbc385964909a482b1d5ea863e1be5d9fa2eebc58f"), looks := false }, kinds := [], alts := [], laidByText := true, laidKinds := [.data, .data, .data, .data, .data], laidTests := true, laidLooks := .later }
def InferFewerCardSaid : Prop := Claim7.holds Tryz.pinned (.plain (OpenSpec.ofChange inferFewerSpec)) inferFewerCard

/-- THE TIED CARD OF 'relyguardlaw17.InferFrames'. -/
def inferFramesCard : Claim7 := { stood := { row := inferFramesRow, standIns := [], harness := (true, "d827dacee09df36c4868b6dbc385964909a482b1d5ea863e1be5d9fa2eebc58f"), looks := false }, kinds := [], alts := [], laidByText := true, laidKinds := [.data, .data, .data, .data, .data], laidTests := true, laidLooks := .later }
def InferFramesCardSaid : Prop := Claim7.holds Tryz.pinned (.plain (OpenSpec.ofChange inferFramesSpec)) inferFramesCard

/-- THE TIED CARD OF 'relyguardlaw17.InferIdle'. -/
def inferIdleCard : Claim7 := { stood := { row := inferIdleRow, standIns := [], harness := (true, "d827dacee09df36c4868b6dbc385964909a482b1d5ea863e1be5d9fa2eebc58f"), looks := false }, kinds := [], alts := [], laidByText := true, laidKinds := [.data, .data, .data, .data, .data], laidTests := true, laidLooks := .later }
def InferIdleCardSaid : Prop := Claim7.holds Tryz.pinned (.plain (OpenSpec.ofChange inferIdleSpec)) inferIdleCard

/-- THE SECOND FORM's CARD OF 'relyguardlaw34.ShrinkMatchesReference'. -/
def shrinkMatchesReferenceUptoCard : Claim7 := { stood := { row := shrinkMatchesReferenceUptoRow, standIns := [], harness := (true, "d827dacee09df36c4868b6dbc385964909a482b1d5ea863e1be5d9fa2eebc58f"), looks := false }, kinds := [], alts := [], laidByText := true, laidKinds := [.data], laidTests := true, laidLooks := .later }
def ShrinkMatchesReferenceUptoCardSaid : Prop := Claim7.holds Tryz.pinned (.plain (OpenSpec.upto shrinkMatchesReferenceSpec)) shrinkMatchesReferenceUptoCard

/-- THE SECOND FORM's CARD OF 'relyguardlaw17.InferInterference'. -/
def inferInterferenceUptoCard : Claim7 := { stood := { row := inferInterferenceUptoRow, standIns := [], harness := (true, "d827dacee09df36c4868b6dbc385964909a482b1d5ea863e1be5d9fa2eebc58f"), looks := false }, kinds := [], alts := [], laidByText := true, laidKinds := [.data, .data, .data, .data, .data], laidTests := true, laidLooks := .later }
def InferInterferenceUptoCardSaid : Prop := Claim7.holds Tryz.pinned (.plain (OpenSpec.upto inferInterferenceSpec)) inferInterferenceUptoCard

/-- THE SECOND FORM's CARD OF 'relyguardlaw17.InferFewer'. -/
def inferFewerUptoCard : Claim7 := { stood := { row := inferFewerUptoRow, standIns := [], harness := (true, "d827dacee09df36c4868b6dbc385964909a482b1d5ea863e1be5d9fa2eebc58f"), looks := false }, kinds := [], alts := [], laidByText := true, laidKinds := [.data, .data, .data, .data, .data], laidTests := true, laidLooks := .later }
def InferFewerUptoCardSaid : Prop := Claim7.holds Tryz.pinned (.plain (OpenSpec.upto inferFewerSpec)) inferFewerUptoCard

/-- THE SECOND FORM's CARD OF 'relyguardlaw17.InferFrames'. -/
def inferFramesUptoCard : Claim7 := { stood := { row := inferFramesUptoRow, standIns := [], harness := (true, "d827dacee09df36c4868b6dbc385964909a482b1d5ea863e1be5d9fa2eebc58f"), looks := false }, kinds := [], alts := [], laidByText := true, laidKinds := [.data, .data, .data, .data, .data], laidTests := true, laidLooks := .later }
def InferFramesUptoCardSaid : Prop := Claim7.holds Tryz.pinned (.plain (OpenSpec.upto inferFramesSpec)) inferFramesUptoCard

/-- THE SECOND FORM's CARD OF 'relyguardlaw17.InferIdle'. -/
def inferIdleUptoCard : Claim7 := { stood := { row := inferIdleUptoRow, standIns := [], harness := (true, "d827dacee09df36c4868b6dbc385964909a482b1d5ea863e1be5d9fa2eebc58f"), looks := false }, kinds := [], alts := [], laidByText := true, laidKinds := [.data, .data, .data, .data, .data], laidTests := true, laidLooks := .later }
def InferIdleUptoCardSaid : Prop := Claim7.holds Tryz.pinned (.plain (OpenSpec.upto inferIdleSpec)) inferIdleUptoCard
end Rows
end Go.Proofs.YtgjenhndpfcjkaaGreatDoor
