/-
  DERIVED. GIVEN WITH THE SEED: THE CARDS: each row of YtdeklijinefhkaaGreatDoorRows.lean that lists a variable, with what it lists TIED to the program's text (the seventh form; the later family's looks); each row that meets fmt, with fmt's text TOLD by the authors' own Lean function (tested against real Go, not proved from fmt's source: count such statements apart). THE CARD IS WHAT COUNTS. Prove the row's statement (the work); the ties are given (YtdeklijinefhkaaGreatDoorTie.lean); close each card by the builder's one call (the guide's Derived/Test/ToyasCard.lean, 'card_holds'). Laid BY PROGRAM, IN A SANDBOX (cutbox-door.mjs). By AI agents, Wed Nov 11 2026. No macro, syntax, notation, axiom, sorry.
-/
import Derived.Test.YtdeklijinefhkaaGreatDoorRows
import GoSem.ClaimSeven
namespace Go.Proofs.YtdeklijinefhkaaGreatDoor
namespace Rows

/-- THE TIED CARD OF 'bondstorelaw24.StoreReplies'. -/
def storeRepliesCard : Claim7 := { stood := { row := storeRepliesRow, standIns := [], harness := (true, "93c56187c1079e403b15d6ceae32e592ae29fa477d9b123101160127c925abec"), looks := false }, kinds := [], alts := [], laidByText := true, laidKinds := [.data, .data, .data, .pinned], laidTests := true, laidLooks := .later }
def StoreRepliesCardSaid : Prop := Claim7.holds Tryz.pinned (.plain (OpenSpec.ofChange storeRepliesSpec)) storeRepliesCard

/-- THE TIED CARD OF 'bondstorelaw24.StoreWrong'. -/
def storeWrongCard : Claim7 := { stood := { row := storeWrongRow, standIns := [], harness := (true, "93c56187c1079e403b15d6ceae32e592ae29fa477d9b123101160127c925abec"), looks := false }, kinds := [], alts := [], laidByText := true, laidKinds := [.data, .data, .data, .pinned], laidTests := true, laidLooks := .later }
def StoreWrongCardSaid : Prop := Claim7.holds Tryz.pinned (.plain (OpenSpec.ofChange storeWrongSpec)) storeWrongCard

/-- THE TIED CARD OF 'bondstorelaw24.StoreCounts'. -/
def storeCountsCard : Claim7 := { stood := { row := storeCountsRow, standIns := [], harness := (true, "93c56187c1079e403b15d6ceae32e592ae29fa477d9b123101160127c925abec"), looks := false }, kinds := [], alts := [], laidByText := true, laidKinds := [.data, .data, .data, .pinned], laidTests := true, laidLooks := .later }
def StoreCountsCardSaid : Prop := Claim7.holds Tryz.pinned (.plain (OpenSpec.ofChange storeCountsSpec)) storeCountsCard

/-- THE TIED CARD OF 'bondstorelaw24.StorePowers'. -/
def storePowersCard : Claim7 := { stood := { row := storePowersRow, standIns := [], harness := (true, "93c56187c1079e403b15d6ceae32e592ae29fa477d9b123101160127c925abec"), looks := false }, kinds := [], alts := [], laidByText := true, laidKinds := [.data, .data, .data, .pinned], laidTests := true, laidLooks := .later }
def StorePowersCardSaid : Prop := Claim7.holds Tryz.pinned (.plain (OpenSpec.ofChange storePowersSpec)) storePowersCard

/-- THE TIED CARD OF 'bondstoretop.CoreStamps'. -/
def coreStampsCard : Claim7 := { stood := { row := coreStampsRow, standIns := [], harness := (true, "93c56187c1079e403b15d6ceae32e592ae29fa477d9b123101160127c925abec"), looks := false }, kinds := [], alts := [], laidByText := true, laidKinds := [.data, .data, .data, .pinned], laidTests := true, laidLooks := .later }
def CoreStampsCardSaid : Prop := Claim7.holds Tryz.pinned (.plain (OpenSpec.ofChange coreStampsSpec)) coreStampsCard

/-- THE SECOND FORM's CARD OF 'bondstorelaw24.StoreReplies'. -/
def storeRepliesUptoCard : Claim7 := { stood := { row := storeRepliesUptoRow, standIns := [], harness := (true, "93c56187c1079e403b15d6ceae32e592ae29fa477d9b123101160127c925abec"), looks := false }, kinds := [], alts := [], laidByText := true, laidKinds := [.data, .data, .data, .pinned], laidTests := true, laidLooks := .later }
def StoreRepliesUptoCardSaid : Prop := Claim7.holds Tryz.pinned (.plain (OpenSpec.upto storeRepliesSpec)) storeRepliesUptoCard

/-- THE SECOND FORM's CARD OF 'bondstorelaw24.StoreWrong'. -/
def storeWrongUptoCard : Claim7 := { stood := { row := storeWrongUptoRow, standIns := [], harness := (true, "93c56187c1079e403b15d6ceae32e592ae29fa477d9b123101160127c925abec"), looks := false }, kinds := [], alts := [], laidByText := true, laidKinds := [.data, .data, .data, .pinned], laidTests := true, laidLooks := .later }
def StoreWrongUptoCardSaid : Prop := Claim7.holds Tryz.pinned (.plain (OpenSpec.upto storeWrongSpec)) storeWrongUptoCard

/-- THE SECOND FORM's CARD OF 'bondstorelaw24.StoreCounts'. -/
def storeCountsUptoCard : Claim7 := { stood := { row := storeCountsUptoRow, standIns := [], harness := (true, "93c56187c1079e403b15d6ceae32e592ae29fa477d9b123101160127c925abec"), looks := false }, kinds := [], alts := [], laidByText := true, laidKinds := [.data, .data, .data, .pinned], laidTests := true, laidLooks := .later }
def StoreCountsUptoCardSaid : Prop := Claim7.holds Tryz.pinned (.plain (OpenSpec.upto storeCountsSpec)) storeCountsUptoCard

/-- THE SECOND FORM's CARD OF 'bondstorelaw24.StorePowers'. -/
def storePowersUptoCard : Claim7 := { stood := { row := storePowersUptoRow, standIns := [], harness := (true, "93c56187c1079e403b15d6ceae32e592ae29fa477d9b123101160127c925abec"), looks := false }, kinds := [], alts := [], laidByText := true, laidKinds := [.data, .data, .data, .pinned], laidTests := true, laidLooks := .later }
def StorePowersUptoCardSaid : Prop := Claim7.holds Tryz.pinned (.plain (OpenSpec.upto storePowersSpec)) storePowersUptoCard

/-- THE SECOND FORM's CARD OF 'bondstoretop.CoreStamps'. -/
def coreStampsUptoCard : Claim7 := { stood := { row := coreStampsUptoRow, standIns := [], harness := (true, "93c56187c1079e403b15d6ceae32e592ae29fa477d9b123101160127c925abec"), looks := false }, kinds := [], alts := [], laidByText := true, laidKinds := [.data, .data, .data, .pinned], laidTests := true, laidLooks := .later }
def CoreStampsUptoCardSaid : Prop := Claim7.holds Tryz.pinned (.plain (OpenSpec.upto coreStampsSpec)) coreStampsUptoCard
end Rows
end Go.Proofs.YtdeklijinefhkaaGreatDoor
