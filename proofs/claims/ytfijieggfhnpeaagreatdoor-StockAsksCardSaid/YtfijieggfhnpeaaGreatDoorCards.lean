/-
  DERIVED. GIVEN WITH THE SEED: THE CARDS: each row of YtfijieggfhnpeaaGreatDoorRows.lean that lists a variable, with what it lists TIED to the program's text (the seventh form; the later family's looks); each row that meets fmt, with fmt's text TOLD by the authors' own Lean function (tested against real Go, not proved from fmt's source: count such statements apart). THE CARD IS WHAT COUNTS. Prove the row's statement (the work); the ties are given (YtfijieggfhnpeaaGreatDoorTie.lean); close each card by the builder's one call (the guide's Derived/Test/ToyasCard.lean, 'card_holds'). Laid BY PROGRAM, IN A SANDBOX (cutbox-door.mjs). By AI agents, Wed Nov 11 2026. No macro, syntax, notation, axiom, sorry.
-/
import Derived.Test.YtfijieggfhnpeaaGreatDoorRows
import GoSem.ClaimSeven
namespace Go.Proofs.YtfijieggfhnpeaaGreatDoor
namespace Rows

/-- THE TIED CARD OF 'bondstorelaw27.StockReads'. -/
def stockReadsCard : Claim7 := { stood := { row := stockReadsRow, standIns := [], harness := (true, "7fdc63894eee4255c333bbc730e33c89f31e391c5e18ba592cc43119ae36da31"), looks := false }, kinds := [], alts := [], laidByText := true, laidKinds := [.data, .data, .data, .pinned], laidTests := true, laidLooks := .later }
def StockReadsCardSaid : Prop := Claim7.holds Tryz.pinned (.plain (OpenSpec.ofChange stockReadsSpec)) stockReadsCard

/-- THE TIED CARD OF 'bondstorelaw27.StockOpens'. -/
def stockOpensCard : Claim7 := { stood := { row := stockOpensRow, standIns := [], harness := (true, "7fdc63894eee4255c333bbc730e33c89f31e391c5e18ba592cc43119ae36da31"), looks := false }, kinds := [], alts := [], laidByText := true, laidKinds := [.data, .data, .data, .pinned], laidTests := true, laidLooks := .later }
def StockOpensCardSaid : Prop := Claim7.holds Tryz.pinned (.plain (OpenSpec.ofChange stockOpensSpec)) stockOpensCard

/-- THE TIED CARD OF 'bondstorelaw27.StockAsks'. -/
def stockAsksCard : Claim7 := { stood := { row := stockAsksRow, standIns := [], harness := (true, "7fdc63894eee4255c333bbc730e33c89f31e391c5e18ba592cc43119ae36da31"), looks := false }, kinds := [], alts := [], laidByText := true, laidKinds := [.data, .data, .data, .pinned], laidTests := true, laidLooks := .later }
def StockAsksCardSaid : Prop := Claim7.holds Tryz.pinned (.plain (OpenSpec.ofChange stockAsksSpec)) stockAsksCard

/-- THE TIED CARD OF 'bondstorelaw27.StockDoes'. -/
def stockDoesCard : Claim7 := { stood := { row := stockDoesRow, standIns := [], harness := (true, "7fdc63894eee4255c333bbc730e33c89f31e391c5e18ba592cc43119ae36da31"), looks := false }, kinds := [], alts := [], laidByText := true, laidKinds := [.data, .data, .data, .pinned], laidTests := true, laidLooks := .later }
def StockDoesCardSaid : Prop := Claim7.holds Tryz.pinned (.plain (OpenSpec.ofChange stockDoesSpec)) stockDoesCard

/-- THE TIED CARD OF 'bondstorelaw27.StockEven'. -/
def stockEvenCard : Claim7 := { stood := { row := stockEvenRow, standIns := [], harness := (true, "7fdc63894eee4255c333bbc730e33c89f31e391c5e18ba592cc43119ae36da31"), looks := false }, kinds := [], alts := [], laidByText := true, laidKinds := [.data, .data, .data, .pinned], laidTests := true, laidLooks := .later }
def StockEvenCardSaid : Prop := Claim7.holds Tryz.pinned (.plain (OpenSpec.ofChange stockEvenSpec)) stockEvenCard

/-- THE SECOND FORM's CARD OF 'bondstorelaw27.StockReads'. -/
def stockReadsUptoCard : Claim7 := { stood := { row := stockReadsUptoRow, standIns := [], harness := (true, "7fdc63894eee4255c333bbc730e33c89f31e391c5e18ba592cc43119ae36da31"), looks := false }, kinds := [], alts := [], laidByText := true, laidKinds := [.data, .data, .data, .pinned], laidTests := true, laidLooks := .later }
def StockReadsUptoCardSaid : Prop := Claim7.holds Tryz.pinned (.plain (OpenSpec.upto stockReadsSpec)) stockReadsUptoCard

/-- THE SECOND FORM's CARD OF 'bondstorelaw27.StockOpens'. -/
def stockOpensUptoCard : Claim7 := { stood := { row := stockOpensUptoRow, standIns := [], harness := (true, "7fdc63894eee4255c333bbc730e33c89f31e391c5e18ba592cc43119ae36da31"), looks := false }, kinds := [], alts := [], laidByText := true, laidKinds := [.data, .data, .data, .pinned], laidTests := true, laidLooks := .later }
def StockOpensUptoCardSaid : Prop := Claim7.holds Tryz.pinned (.plain (OpenSpec.upto stockOpensSpec)) stockOpensUptoCard

/-- THE SECOND FORM's CARD OF 'bondstorelaw27.StockAsks'. -/
def stockAsksUptoCard : Claim7 := { stood := { row := stockAsksUptoRow, standIns := [], harness := (true, "7fdc63894eee4255c333bbc730e33c89f31e391c5e18ba592cc43119ae36da31"), looks := false }, kinds := [], alts := [], laidByText := true, laidKinds := [.data, .data, .data, .pinned], laidTests := true, laidLooks := .later }
def StockAsksUptoCardSaid : Prop := Claim7.holds Tryz.pinned (.plain (OpenSpec.upto stockAsksSpec)) stockAsksUptoCard

/-- THE SECOND FORM's CARD OF 'bondstorelaw27.StockDoes'. -/
def stockDoesUptoCard : Claim7 := { stood := { row := stockDoesUptoRow, standIns := [], harness := (true, "7fdc63894eee4255c333bbc730e33c89f31e391c5e18ba592cc43119ae36da31"), looks := false }, kinds := [], alts := [], laidByText := true, laidKinds := [.data, .data, .data, .pinned], laidTests := true, laidLooks := .later }
def StockDoesUptoCardSaid : Prop := Claim7.holds Tryz.pinned (.plain (OpenSpec.upto stockDoesSpec)) stockDoesUptoCard

/-- THE SECOND FORM's CARD OF 'bondstorelaw27.StockEven'. -/
def stockEvenUptoCard : Claim7 := { stood := { row := stockEvenUptoRow, standIns := [], harness := (true, "7fdc63894eee4255c333bbc730e33c89f31e391c5e18ba592cc43119ae36da31"), looks := false }, kinds := [], alts := [], laidByText := true, laidKinds := [.data, .data, .data, .pinned], laidTests := true, laidLooks := .later }
def StockEvenUptoCardSaid : Prop := Claim7.holds Tryz.pinned (.plain (OpenSpec.upto stockEvenSpec)) stockEvenUptoCard
end Rows
end Go.Proofs.YtfijieggfhnpeaaGreatDoor
