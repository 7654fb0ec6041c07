/-
  DERIVED. GIVEN WITH THE SEED: THE CARDS: each row of YtnffemlgkghcfaaGreatDoorRows.lean that lists a variable, with what it lists TIED to the program's text (the seventh form; the later family's looks); each row that meets fmt, with fmt's text TOLD by the authors' own Lean function (tested against real Go, not proved from fmt's source: count such statements apart). THE CARD IS WHAT COUNTS. Prove the row's statement (the work); the ties are given (YtnffemlgkghcfaaGreatDoorTie.lean); close each card by the builder's one call (the guide's Derived/Test/ToyasCard.lean, 'card_holds'). Laid BY PROGRAM, IN A SANDBOX (cutbox-door.mjs). By AI agents, Wed Nov 11 2026. No macro, syntax, notation, axiom, sorry.
-/
import Derived.Test.YtnffemlgkghcfaaGreatDoorRows
import GoSem.ClaimSeven
namespace Go.Proofs.YtnffemlgkghcfaaGreatDoor
namespace Rows

/-- THE TIED CARD OF 'bondstorelaw23.VaultRoom'. -/
def vaultRoomCard : Claim7 := { stood := { row := vaultRoomRow, standIns := [], harness := (true, "094c27c148d974e1be1e24b6b331a55794ee88d47a521d3aa75eca42cc2eff05"), looks := false }, kinds := [], alts := [], laidByText := true, laidKinds := [.data, .data, .data, .pinned], laidTests := true, laidLooks := .later }
def VaultRoomCardSaid : Prop := Claim7.holds Tryz.pinned (.plain (OpenSpec.ofChange vaultRoomSpec)) vaultRoomCard

/-- THE TIED CARD OF 'bondstorelaw23.VaultSaves'. -/
def vaultSavesCard : Claim7 := { stood := { row := vaultSavesRow, standIns := [], harness := (true, "094c27c148d974e1be1e24b6b331a55794ee88d47a521d3aa75eca42cc2eff05"), looks := false }, kinds := [], alts := [], laidByText := true, laidKinds := [.data, .data, .data, .pinned], laidTests := true, laidLooks := .later }
def VaultSavesCardSaid : Prop := Claim7.holds Tryz.pinned (.plain (OpenSpec.ofChange vaultSavesSpec)) vaultSavesCard

/-- THE TIED CARD OF 'bondstorelaw23.VaultSick'. -/
def vaultSickCard : Claim7 := { stood := { row := vaultSickRow, standIns := [], harness := (true, "094c27c148d974e1be1e24b6b331a55794ee88d47a521d3aa75eca42cc2eff05"), looks := false }, kinds := [], alts := [], laidByText := true, laidKinds := [.data, .data, .data, .pinned], laidTests := true, laidLooks := .later }
def VaultSickCardSaid : Prop := Claim7.holds Tryz.pinned (.plain (OpenSpec.ofChange vaultSickSpec)) vaultSickCard

/-- THE TIED CARD OF 'bondstorelaw23.VaultKeeps'. -/
def vaultKeepsCard : Claim7 := { stood := { row := vaultKeepsRow, standIns := [], harness := (true, "094c27c148d974e1be1e24b6b331a55794ee88d47a521d3aa75eca42cc2eff05"), looks := false }, kinds := [], alts := [], laidByText := true, laidKinds := [.data, .data, .data, .pinned], laidTests := true, laidLooks := .later }
def VaultKeepsCardSaid : Prop := Claim7.holds Tryz.pinned (.plain (OpenSpec.ofChange vaultKeepsSpec)) vaultKeepsCard

/-- THE SECOND FORM's CARD OF 'bondstorelaw23.VaultRoom'. -/
def vaultRoomUptoCard : Claim7 := { stood := { row := vaultRoomUptoRow, standIns := [], harness := (true, "094c27c148d974e1be1e24b6b331a55794ee88d47a521d3aa75eca42cc2eff05"), looks := false }, kinds := [], alts := [], laidByText := true, laidKinds := [.data, .data, .data, .pinned], laidTests := true, laidLooks := .later }
def VaultRoomUptoCardSaid : Prop := Claim7.holds Tryz.pinned (.plain (OpenSpec.upto vaultRoomSpec)) vaultRoomUptoCard

/-- THE SECOND FORM's CARD OF 'bondstorelaw23.VaultSaves'. -/
def vaultSavesUptoCard : Claim7 := { stood := { row := vaultSavesUptoRow, standIns := [], harness := (true, "094c27c148d974e1be1e24b6b331a55794ee88d47a521d3aa75eca42cc2eff05"), looks := false }, kinds := [], alts := [], laidByText := true, laidKinds := [.data, .data, .data, .pinned], laidTests := true, laidLooks := .later }
def VaultSavesUptoCardSaid : Prop := Claim7.holds Tryz.pinned (.plain (OpenSpec.upto vaultSavesSpec)) vaultSavesUptoCard

/-- THE SECOND FORM's CARD OF 'bondstorelaw23.VaultSick'. -/
def vaultSickUptoCard : Claim7 := { stood := { row := vaultSickUptoRow, standIns := [], harness := (true, "094c27c148d974e1be1e24b6b331a55794ee88d47a521d3aa75eca42cc2eff05"), looks := false }, kinds := [], alts := [], laidByText := true, laidKinds := [.data, .data, .data, .pinned], laidTests := true, laidLooks := .later }
def VaultSickUptoCardSaid : Prop := Claim7.holds Tryz.pinned (.plain (OpenSpec.upto vaultSickSpec)) vaultSickUptoCard

/-- THE SECOND FORM's CARD OF 'bondstorelaw23.VaultKeeps'. -/
def vaultKeepsUptoCard : Claim7 := { stood := { row := vaultKeepsUptoRow, standIns := [], harness := (true, "094c27c148d974e1be1e24b6b331a55794ee88d47a521d3aa75eca42cc2eff05"), looks := false }, kinds := [], alts := [], laidByText := true, laidKinds := [.data, .data, .data, .pinned], laidTests := true, laidLooks := .later }
def VaultKeepsUptoCardSaid : Prop := Claim7.holds Tryz.pinned (.plain (OpenSpec.upto vaultKeepsSpec)) vaultKeepsUptoCard
end Rows
end Go.Proofs.YtnffemlgkghcfaaGreatDoor
