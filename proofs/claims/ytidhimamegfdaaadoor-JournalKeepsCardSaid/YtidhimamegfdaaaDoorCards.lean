/-
  DERIVED. GIVEN WITH THE SEED: THE CARDS: each row of YtidhimamegfdaaaDoorRows.lean that lists a variable, with what it lists TIED to the program's text (the seventh form; the later family's looks); each row that meets fmt, with fmt's text TOLD by the authors' own Lean function (tested against real Go, not proved from fmt's source: count such statements apart). THE CARD IS WHAT COUNTS. Prove the row's statement (the work); the ties are given (YtidhimamegfdaaaDoorTie.lean); close each card by the builder's one call (the guide's Derived/Test/ToyasCard.lean, 'card_holds'). Laid BY PROGRAM, IN A SANDBOX (cutbox-door.mjs). By AI agents, Wed Nov 11 2026. No macro, syntax, notation, axiom, sorry.
-/
import Derived.Test.YtidhimamegfdaaaDoorRows
import GoSem.ClaimSeven
namespace Go.Proofs.YtidhimamegfdaaaDoor
namespace Rows

/-- THE TIED CARD OF 'bondstorelaw05.StampLays'. -/
def stampLaysCard : Claim7 := { stood := { row := stampLaysRow, standIns := [], harness := (true, "ac3f7040c5b59a0563b45aecbdff67fc1b5b63291c69bf831b06bbc36117e7e9"), looks := false }, kinds := [], alts := [], laidByText := true, laidKinds := [.data, .pinned], laidTests := true, laidLooks := .later }
def StampLaysCardSaid : Prop := Claim7.holds Tryd.pinned (.plain (OpenSpec.ofChange stampLaysSpec)) stampLaysCard

/-- THE TIED CARD OF 'bondstorelaw07.SlotOver'. -/
def slotOverCard : Claim7 := { stood := { row := slotOverRow, standIns := [], harness := (true, "ac3f7040c5b59a0563b45aecbdff67fc1b5b63291c69bf831b06bbc36117e7e9"), looks := false }, kinds := [], alts := [], laidByText := true, laidKinds := [.data, .pinned], laidTests := true, laidLooks := .later }
def SlotOverCardSaid : Prop := Claim7.holds Tryd.pinned (.plain (OpenSpec.ofChange slotOverSpec)) slotOverCard

/-- THE TIED CARD OF 'bondstorelaw07.SlotPuts'. -/
def slotPutsCard : Claim7 := { stood := { row := slotPutsRow, standIns := [], harness := (true, "ac3f7040c5b59a0563b45aecbdff67fc1b5b63291c69bf831b06bbc36117e7e9"), looks := false }, kinds := [], alts := [], laidByText := true, laidKinds := [.data, .pinned], laidTests := true, laidLooks := .later }
def SlotPutsCardSaid : Prop := Claim7.holds Tryd.pinned (.plain (OpenSpec.ofChange slotPutsSpec)) slotPutsCard

/-- THE TIED CARD OF 'bondstorelaw05.StampCrash'. -/
def stampCrashCard : Claim7 := { stood := { row := stampCrashRow, standIns := [], harness := (true, "ac3f7040c5b59a0563b45aecbdff67fc1b5b63291c69bf831b06bbc36117e7e9"), looks := false }, kinds := [], alts := [], laidByText := true, laidKinds := [.data, .pinned], laidTests := true, laidLooks := .later }
def StampCrashCardSaid : Prop := Claim7.holds Tryd.pinned (.plain (OpenSpec.ofChange stampCrashSpec)) stampCrashCard

/-- THE TIED CARD OF 'bondstorelaw08.CrownBytes'. -/
def crownBytesCard : Claim7 := { stood := { row := crownBytesRow, standIns := [], harness := (true, "ac3f7040c5b59a0563b45aecbdff67fc1b5b63291c69bf831b06bbc36117e7e9"), looks := false }, kinds := [], alts := [], laidByText := true, laidKinds := [.data, .pinned], laidTests := true, laidLooks := .later }
def CrownBytesCardSaid : Prop := Claim7.holds Tryd.pinned (.plain (OpenSpec.ofChange crownBytesSpec)) crownBytesCard

/-- THE TIED CARD OF 'bondstorelaw08.CrownReads'. -/
def crownReadsCard : Claim7 := { stood := { row := crownReadsRow, standIns := [], harness := (true, "ac3f7040c5b59a0563b45aecbdff67fc1b5b63291c69bf831b06bbc36117e7e9"), looks := false }, kinds := [], alts := [], laidByText := true, laidKinds := [.data, .pinned], laidTests := true, laidLooks := .later }
def CrownReadsCardSaid : Prop := Claim7.holds Tryd.pinned (.plain (OpenSpec.ofChange crownReadsSpec)) crownReadsCard

/-- THE TIED CARD OF 'bondstorelaw08.CrownPuts'. -/
def crownPutsCard : Claim7 := { stood := { row := crownPutsRow, standIns := [], harness := (true, "ac3f7040c5b59a0563b45aecbdff67fc1b5b63291c69bf831b06bbc36117e7e9"), looks := false }, kinds := [], alts := [], laidByText := true, laidKinds := [.data, .pinned], laidTests := true, laidLooks := .later }
def CrownPutsCardSaid : Prop := Claim7.holds Tryd.pinned (.plain (OpenSpec.ofChange crownPutsSpec)) crownPutsCard

/-- THE TIED CARD OF 'bondstorelaw07.SlotCrash'. -/
def slotCrashCard : Claim7 := { stood := { row := slotCrashRow, standIns := [], harness := (true, "ac3f7040c5b59a0563b45aecbdff67fc1b5b63291c69bf831b06bbc36117e7e9"), looks := false }, kinds := [], alts := [], laidByText := true, laidKinds := [.data, .pinned], laidTests := true, laidLooks := .later }
def SlotCrashCardSaid : Prop := Claim7.holds Tryd.pinned (.plain (OpenSpec.ofChange slotCrashSpec)) slotCrashCard

/-- THE TIED CARD OF 'bondstorelaw08.CrownCrash'. -/
def crownCrashCard : Claim7 := { stood := { row := crownCrashRow, standIns := [], harness := (true, "ac3f7040c5b59a0563b45aecbdff67fc1b5b63291c69bf831b06bbc36117e7e9"), looks := false }, kinds := [], alts := [], laidByText := true, laidKinds := [.data, .pinned], laidTests := true, laidLooks := .later }
def CrownCrashCardSaid : Prop := Claim7.holds Tryd.pinned (.plain (OpenSpec.ofChange crownCrashSpec)) crownCrashCard

/-- THE TIED CARD OF 'bondstorelaw06.JournalRoom'. -/
def journalRoomCard : Claim7 := { stood := { row := journalRoomRow, standIns := [], harness := (true, "ac3f7040c5b59a0563b45aecbdff67fc1b5b63291c69bf831b06bbc36117e7e9"), looks := false }, kinds := [], alts := [], laidByText := true, laidKinds := [.data, .pinned], laidTests := true, laidLooks := .later }
def JournalRoomCardSaid : Prop := Claim7.holds Tryd.pinned (.plain (OpenSpec.ofChange journalRoomSpec)) journalRoomCard

/-- THE TIED CARD OF 'bondstorelaw06.JournalRaw'. -/
def journalRawCard : Claim7 := { stood := { row := journalRawRow, standIns := [], harness := (true, "ac3f7040c5b59a0563b45aecbdff67fc1b5b63291c69bf831b06bbc36117e7e9"), looks := false }, kinds := [], alts := [], laidByText := true, laidKinds := [.data, .pinned], laidTests := true, laidLooks := .later }
def JournalRawCardSaid : Prop := Claim7.holds Tryd.pinned (.plain (OpenSpec.ofChange journalRawSpec)) journalRawCard

/-- THE TIED CARD OF 'bondstorelaw06.JournalFlying'. -/
def journalFlyingCard : Claim7 := { stood := { row := journalFlyingRow, standIns := [], harness := (true, "ac3f7040c5b59a0563b45aecbdff67fc1b5b63291c69bf831b06bbc36117e7e9"), looks := false }, kinds := [], alts := [], laidByText := true, laidKinds := [.data, .pinned], laidTests := true, laidLooks := .later }
def JournalFlyingCardSaid : Prop := Claim7.holds Tryd.pinned (.plain (OpenSpec.ofChange journalFlyingSpec)) journalFlyingCard

/-- THE TIED CARD OF 'bondstorelaw06.JournalRestarts'. -/
def journalRestartsCard : Claim7 := { stood := { row := journalRestartsRow, standIns := [], harness := (true, "ac3f7040c5b59a0563b45aecbdff67fc1b5b63291c69bf831b06bbc36117e7e9"), looks := false }, kinds := [], alts := [], laidByText := true, laidKinds := [.data, .pinned], laidTests := true, laidLooks := .later }
def JournalRestartsCardSaid : Prop := Claim7.holds Tryd.pinned (.plain (OpenSpec.ofChange journalRestartsSpec)) journalRestartsCard

/-- THE TIED CARD OF 'bondstorelaw06.JournalKeeps'. -/
def journalKeepsCard : Claim7 := { stood := { row := journalKeepsRow, standIns := [], harness := (true, "ac3f7040c5b59a0563b45aecbdff67fc1b5b63291c69bf831b06bbc36117e7e9"), looks := false }, kinds := [], alts := [], laidByText := true, laidKinds := [.data, .pinned], laidTests := true, laidLooks := .later }
def JournalKeepsCardSaid : Prop := Claim7.holds Tryd.pinned (.plain (OpenSpec.ofChange journalKeepsSpec)) journalKeepsCard

/-- THE SECOND FORM's CARD OF 'bondstorelaw05.StampLays'. -/
def stampLaysUptoCard : Claim7 := { stood := { row := stampLaysUptoRow, standIns := [], harness := (true, "ac3f7040c5b59a0563b45aecbdff67fc1b5b63291c69bf831b06bbc36117e7e9"), looks := false }, kinds := [], alts := [], laidByText := true, laidKinds := [.data, .pinned], laidTests := true, laidLooks := .later }
def StampLaysUptoCardSaid : Prop := Claim7.holds Tryd.pinned (.plain (OpenSpec.upto stampLaysSpec)) stampLaysUptoCard

/-- THE SECOND FORM's CARD OF 'bondstorelaw07.SlotOver'. -/
def slotOverUptoCard : Claim7 := { stood := { row := slotOverUptoRow, standIns := [], harness := (true, "ac3f7040c5b59a0563b45aecbdff67fc1b5b63291c69bf831b06bbc36117e7e9"), looks := false }, kinds := [], alts := [], laidByText := true, laidKinds := [.data, .pinned], laidTests := true, laidLooks := .later }
def SlotOverUptoCardSaid : Prop := Claim7.holds Tryd.pinned (.plain (OpenSpec.upto slotOverSpec)) slotOverUptoCard

/-- THE SECOND FORM's CARD OF 'bondstorelaw07.SlotPuts'. -/
def slotPutsUptoCard : Claim7 := { stood := { row := slotPutsUptoRow, standIns := [], harness := (true, "ac3f7040c5b59a0563b45aecbdff67fc1b5b63291c69bf831b06bbc36117e7e9"), looks := false }, kinds := [], alts := [], laidByText := true, laidKinds := [.data, .pinned], laidTests := true, laidLooks := .later }
def SlotPutsUptoCardSaid : Prop := Claim7.holds Tryd.pinned (.plain (OpenSpec.upto slotPutsSpec)) slotPutsUptoCard

/-- THE SECOND FORM's CARD OF 'bondstorelaw05.StampCrash'. -/
def stampCrashUptoCard : Claim7 := { stood := { row := stampCrashUptoRow, standIns := [], harness := (true, "ac3f7040c5b59a0563b45aecbdff67fc1b5b63291c69bf831b06bbc36117e7e9"), looks := false }, kinds := [], alts := [], laidByText := true, laidKinds := [.data, .pinned], laidTests := true, laidLooks := .later }
def StampCrashUptoCardSaid : Prop := Claim7.holds Tryd.pinned (.plain (OpenSpec.upto stampCrashSpec)) stampCrashUptoCard

/-- THE SECOND FORM's CARD OF 'bondstorelaw08.CrownBytes'. -/
def crownBytesUptoCard : Claim7 := { stood := { row := crownBytesUptoRow, standIns := [], harness := (true, "ac3f7040c5b59a0563b45aecbdff67fc1b5b63291c69bf831b06bbc36117e7e9"), looks := false }, kinds := [], alts := [], laidByText := true, laidKinds := [.data, .pinned], laidTests := true, laidLooks := .later }
def CrownBytesUptoCardSaid : Prop := Claim7.holds Tryd.pinned (.plain (OpenSpec.upto crownBytesSpec)) crownBytesUptoCard

/-- THE SECOND FORM's CARD OF 'bondstorelaw08.CrownReads'. -/
def crownReadsUptoCard : Claim7 := { stood := { row := crownReadsUptoRow, standIns := [], harness := (true, "ac3f7040c5b59a0563b45aecbdff67fc1b5b63291c69bf831b06bbc36117e7e9"), looks := false }, kinds := [], alts := [], laidByText := true, laidKinds := [.data, .pinned], laidTests := true, laidLooks := .later }
def CrownReadsUptoCardSaid : Prop := Claim7.holds Tryd.pinned (.plain (OpenSpec.upto crownReadsSpec)) crownReadsUptoCard

/-- THE SECOND FORM's CARD OF 'bondstorelaw08.CrownPuts'. -/
def crownPutsUptoCard : Claim7 := { stood := { row := crownPutsUptoRow, standIns := [], harness := (true, "ac3f7040c5b59a0563b45aecbdff67fc1b5b63291c69bf831b06bbc36117e7e9"), looks := false }, kinds := [], alts := [], laidByText := true, laidKinds := [.data, .pinned], laidTests := true, laidLooks := .later }
def CrownPutsUptoCardSaid : Prop := Claim7.holds Tryd.pinned (.plain (OpenSpec.upto crownPutsSpec)) crownPutsUptoCard

/-- THE SECOND FORM's CARD OF 'bondstorelaw07.SlotCrash'. -/
def slotCrashUptoCard : Claim7 := { stood := { row := slotCrashUptoRow, standIns := [], harness := (true, "ac3f7040c5b59a0563b45aecbdff67fc1b5b63291c69bf831b06bbc36117e7e9"), looks := false }, kinds := [], alts := [], laidByText := true, laidKinds := [.data, .pinned], laidTests := true, laidLooks := .later }
def SlotCrashUptoCardSaid : Prop := Claim7.holds Tryd.pinned (.plain (OpenSpec.upto slotCrashSpec)) slotCrashUptoCard

/-- THE SECOND FORM's CARD OF 'bondstorelaw08.CrownCrash'. -/
def crownCrashUptoCard : Claim7 := { stood := { row := crownCrashUptoRow, standIns := [], harness := (true, "ac3f7040c5b59a0563b45aecbdff67fc1b5b63291c69bf831b06bbc36117e7e9"), looks := false }, kinds := [], alts := [], laidByText := true, laidKinds := [.data, .pinned], laidTests := true, laidLooks := .later }
def CrownCrashUptoCardSaid : Prop := Claim7.holds Tryd.pinned (.plain (OpenSpec.upto crownCrashSpec)) crownCrashUptoCard

/-- THE SECOND FORM's CARD OF 'bondstorelaw06.JournalRoom'. -/
def journalRoomUptoCard : Claim7 := { stood := { row := journalRoomUptoRow, standIns := [], harness := (true, "ac3f7040c5b59a0563b45aecbdff67fc1b5b63291c69bf831b06bbc36117e7e9"), looks := false }, kinds := [], alts := [], laidByText := true, laidKinds := [.data, .pinned], laidTests := true, laidLooks := .later }
def JournalRoomUptoCardSaid : Prop := Claim7.holds Tryd.pinned (.plain (OpenSpec.upto journalRoomSpec)) journalRoomUptoCard

/-- THE SECOND FORM's CARD OF 'bondstorelaw06.JournalRaw'. -/
def journalRawUptoCard : Claim7 := { stood := { row := journalRawUptoRow, standIns := [], harness := (true, "ac3f7040c5b59a0563b45aecbdff67fc1b5b63291c69bf831b06bbc36117e7e9"), looks := false }, kinds := [], alts := [], laidByText := true, laidKinds := [.data, .pinned], laidTests := true, laidLooks := .later }
def JournalRawUptoCardSaid : Prop := Claim7.holds Tryd.pinned (.plain (OpenSpec.upto journalRawSpec)) journalRawUptoCard

/-- THE SECOND FORM's CARD OF 'bondstorelaw06.JournalFlying'. -/
def journalFlyingUptoCard : Claim7 := { stood := { row := journalFlyingUptoRow, standIns := [], harness := (true, "ac3f7040c5b59a0563b45aecbdff67fc1b5b63291c69bf831b06bbc36117e7e9"), looks := false }, kinds := [], alts := [], laidByText := true, laidKinds := [.data, .pinned], laidTests := true, laidLooks := .later }
def JournalFlyingUptoCardSaid : Prop := Claim7.holds Tryd.pinned (.plain (OpenSpec.upto journalFlyingSpec)) journalFlyingUptoCard

/-- THE SECOND FORM's CARD OF 'bondstorelaw06.JournalRestarts'. -/
def journalRestartsUptoCard : Claim7 := { stood := { row := journalRestartsUptoRow, standIns := [], harness := (true, "ac3f7040c5b59a0563b45aecbdff67fc1b5b63291c69bf831b06bbc36117e7e9"), looks := false }, kinds := [], alts := [], laidByText := true, laidKinds := [.data, .pinned], laidTests := true, laidLooks := .later }
def JournalRestartsUptoCardSaid : Prop := Claim7.holds Tryd.pinned (.plain (OpenSpec.upto journalRestartsSpec)) journalRestartsUptoCard

/-- THE SECOND FORM's CARD OF 'bondstorelaw06.JournalKeeps'. -/
def journalKeepsUptoCard : Claim7 := { stood := { row := journalKeepsUptoRow, standIns := [], harness := (true, "ac3f7040c5b59a0563b45aecbdff67fc1b5b63291c69bf831b06bbc36117e7e9"), looks := false }, kinds := [], alts := [], laidByText := true, laidKinds := [.data, .pinned], laidTests := true, laidLooks := .later }
def JournalKeepsUptoCardSaid : Prop := Claim7.holds Tryd.pinned (.plain (OpenSpec.upto journalKeepsSpec)) journalKeepsUptoCard
end Rows
end Go.Proofs.YtidhimamegfdaaaDoor
