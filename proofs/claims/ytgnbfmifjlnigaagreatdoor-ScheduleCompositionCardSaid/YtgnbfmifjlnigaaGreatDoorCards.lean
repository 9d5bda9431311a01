/-
  DERIVED. GIVEN WITH THE SEED: THE CARDS: each row of YtgnbfmifjlnigaaGreatDoorRows.lean that lists a variable, with what it lists TIED to the program's text (the seventh form; the later family's looks); each row that meets fmt, with fmt's text TOLD by the authors' own Lean function (tested against real Go, not proved from fmt's source: count such statements apart). THE CARD IS WHAT COUNTS. Prove the row's statement (the work); the ties are given (YtgnbfmifjlnigaaGreatDoorTie.lean); close each card by the builder's one call (the guide's Derived/Test/ToyasCard.lean, 'card_holds'). Laid BY PROGRAM, IN A SANDBOX (cutbox-door.mjs). By AI agents, Wed Nov 11 2026. No macro, syntax, notation, axiom, sorry.
-/
import Derived.Test.YtgnbfmifjlnigaaGreatDoorRows
import GoSem.ClaimSeven
namespace Go.Proofs.YtgnbfmifjlnigaaGreatDoor
namespace Rows

/-- THE TIED CARD OF 'relyguardlaw13.ScheduleText'. -/
def scheduleTextCard : Claim7 := { stood := { row := scheduleTextRow, standIns := [], harness := (true, "0417c42382e51953d4562c7b50c5d9aecc7a7b599915339ef9b8fe8ea1a051a0"), looks := false }, kinds := [], alts := [], laidByText := true, laidKinds := [.data, .data, .data, .data], laidTests := true, laidLooks := .later }
def ScheduleTextCardSaid : Prop := Claim7.holds Tryz.pinned (.plain (OpenSpec.ofChange scheduleTextSpec)) scheduleTextCard

/-- THE TIED CARD OF 'relyguardlaw13.SchedulePrefixes'. -/
def schedulePrefixesCard : Claim7 := { stood := { row := schedulePrefixesRow, standIns := [], harness := (true, "0417c42382e51953d4562c7b50c5d9aecc7a7b599915339ef9b8fe8ea1a051a0"), looks := false }, kinds := [], alts := [], laidByText := true, laidKinds := [.data, .data, .data, .data], laidTests := true, laidLooks := .later }
def SchedulePrefixesCardSaid : Prop := Claim7.holds Tryz.pinned (.plain (OpenSpec.ofChange schedulePrefixesSpec)) schedulePrefixesCard

/-- THE TIED CARD OF 'relyguardlaw13.ScheduleSequential'. -/
def scheduleSequentialCard : Claim7 := { stood := { row := scheduleSequentialRow, standIns := [], harness := (true, "0417c42382e51953d4562c7b50c5d9aecc7a7b599915339ef9b8fe8ea1a051a0"), looks := false }, kinds := [], alts := [], laidByText := true, laidKinds := [.data, .data, .data, .data], laidTests := true, laidLooks := .later }
def ScheduleSequentialCardSaid : Prop := Claim7.holds Tryz.pinned (.plain (OpenSpec.ofChange scheduleSequentialSpec)) scheduleSequentialCard

/-- THE TIED CARD OF 'relyguardlaw13.ScheduleSteps'. -/
def scheduleStepsCard : Claim7 := { stood := { row := scheduleStepsRow, standIns := [], harness := (true, "0417c42382e51953d4562c7b50c5d9aecc7a7b599915339ef9b8fe8ea1a051a0"), looks := false }, kinds := [], alts := [], laidByText := true, laidKinds := [.data, .data, .data, .data], laidTests := true, laidLooks := .later }
def ScheduleStepsCardSaid : Prop := Claim7.holds Tryz.pinned (.plain (OpenSpec.ofChange scheduleStepsSpec)) scheduleStepsCard

/-- THE TIED CARD OF 'relyguardlaw13.ScheduleComposition'. -/
def scheduleCompositionCard : Claim7 := { stood := { row := scheduleCompositionRow, standIns := [], harness := (true, "0417c42382e51953d4562c7b50c5d9aecc7a7b599915339ef9b8fe8ea1a051a0"), looks := false }, kinds := [], alts := [], laidByText := true, laidKinds := [.data, .data, .data, .data], laidTests := true, laidLooks := .later }
def ScheduleCompositionCardSaid : Prop := Claim7.holds Tryz.pinned (.plain (OpenSpec.ofChange scheduleCompositionSpec)) scheduleCompositionCard

/-- THE SECOND FORM's CARD OF 'relyguardlaw13.ScheduleText'. -/
def scheduleTextUptoCard : Claim7 := { stood := { row := scheduleTextUptoRow, standIns := [], harness := (true, "0417c42382e51953d4562c7b50c5d9aecc7a7b599915339ef9b8fe8ea1a051a0"), looks := false }, kinds := [], alts := [], laidByText := true, laidKinds := [.data, .data, .data, .data], laidTests := true, laidLooks := .later }
def ScheduleTextUptoCardSaid : Prop := Claim7.holds Tryz.pinned (.plain (OpenSpec.upto scheduleTextSpec)) scheduleTextUptoCard

/-- THE SECOND FORM's CARD OF 'relyguardlaw13.SchedulePrefixes'. -/
def schedulePrefixesUptoCard : Claim7 := { stood := { row := schedulePrefixesUptoRow, standIns := [], harness := (true, "0417c42382e51953d4562c7b50c5d9aecc7a7b599915339ef9b8fe8ea1a051a0"), looks := false }, kinds := [], alts := [], laidByText := true, laidKinds := [.data, .data, .data, .data], laidTests := true, laidLooks := .later }
def SchedulePrefixesUptoCardSaid : Prop := Claim7.holds Tryz.pinned (.plain (OpenSpec.upto schedulePrefixesSpec)) schedulePrefixesUptoCard

/-- THE SECOND FORM's CARD OF 'relyguardlaw13.ScheduleSequential'. -/
def scheduleSequentialUptoCard : Claim7 := { stood := { row := scheduleSequentialUptoRow, standIns := [], harness := (true, "0417c42382e51953d4562c7b50c5d9aecc7a7b599915339ef9b8fe8ea1a051a0"), looks := false }, kinds := [], alts := [], laidByText := true, laidKinds := [.data, .data, .data, .data], laidTests := true, laidLooks := .later }
def ScheduleSequentialUptoCardSaid : Prop := Claim7.holds Tryz.pinned (.plain (OpenSpec.upto scheduleSequentialSpec)) scheduleSequentialUptoCard

/-- THE SECOND FORM's CARD OF 'relyguardlaw13.ScheduleSteps'. -/
def scheduleStepsUptoCard : Claim7 := { stood := { row := scheduleStepsUptoRow, standIns := [], harness := (true, "0417c42382e51953d4562c7b50c5d9aecc7a7b599915339ef9b8fe8ea1a051a0"), looks := false }, kinds := [], alts := [], laidByText := true, laidKinds := [.data, .data, .data, .data], laidTests := true, laidLooks := .later }
def ScheduleStepsUptoCardSaid : Prop := Claim7.holds Tryz.pinned (.plain (OpenSpec.upto scheduleStepsSpec)) scheduleStepsUptoCard

/-- THE SECOND FORM's CARD OF 'relyguardlaw13.ScheduleComposition'. -/
def scheduleCompositionUptoCard : Claim7 := { stood := { row := scheduleCompositionUptoRow, standIns := [], harness := (true, "0417c42382e51953d4562c7b50c5d9aecc7a7b599915339ef9b8fe8ea1a051a0"), looks := false }, kinds := [], alts := [], laidByText := true, laidKinds := [.data, .data, .data, .data], laidTests := true, laidLooks := .later }
def ScheduleCompositionUptoCardSaid : Prop := Claim7.holds Tryz.pinned (.plain (OpenSpec.upto scheduleCompositionSpec)) scheduleCompositionUptoCard
end Rows
end Go.Proofs.YtgnbfmifjlnigaaGreatDoor
