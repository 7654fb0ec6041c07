/-
  DERIVED. GIVEN WITH THE SEED: THE CARDS: each row of YtibneekkkdnmgaaGreatDoorRows.lean that lists a variable, with what it lists TIED to the program's text (the seventh form; the later family's looks); each row that meets fmt, with fmt's text TOLD by the authors' own Lean function (tested against real Go, not proved from fmt's source: count such statements apart). THE CARD IS WHAT COUNTS. Prove the row's statement (the work); the ties are given (YtibneekkkdnmgaaGreatDoorTie.lean); close each card by the builder's one call (the guide's Derived/Test/ToyasCard.lean, 'card_holds'). Laid BY PROGRAM, IN A SANDBOX (cutbox-door.mjs). By AI agents, Wed Nov 11 2026. No macro, syntax, notation, axiom, sorry.
-/
import Derived.Test.YtibneekkkdnmgaaGreatDoorRows
import GoSem.ClaimSeven
namespace Go.Proofs.YtibneekkkdnmgaaGreatDoor
namespace Rows

/-- THE TIED CARD OF 'bondstoretop.CoreServes'. -/
def coreServesCard : Claim7 := { stood := { row := coreServesRow, standIns := [], harness := (true, "df8bbd1f98fac33b3775e19fedf1ca6eec3c18ce2bc9459f3ee47e67e01cb90c"), looks := false }, kinds := [], alts := [], laidByText := true, laidKinds := [.data, .data, .data, .pinned], laidTests := true, laidLooks := .later }
def CoreServesCardSaid : Prop := Claim7.holds Tryz.pinned (.plain (OpenSpec.ofChange coreServesSpec)) coreServesCard

/-- THE TIED CARD OF 'bondstoretop.CoreCrash'. -/
def coreCrashCard : Claim7 := { stood := { row := coreCrashRow, standIns := [], harness := (true, "df8bbd1f98fac33b3775e19fedf1ca6eec3c18ce2bc9459f3ee47e67e01cb90c"), looks := false }, kinds := [], alts := [], laidByText := true, laidKinds := [.data, .data, .data, .pinned], laidTests := true, laidLooks := .later }
def CoreCrashCardSaid : Prop := Claim7.holds Tryz.pinned (.plain (OpenSpec.ofChange coreCrashSpec)) coreCrashCard

/-- THE TIED CARD OF 'bondstoretop.CoreSums'. -/
def coreSumsCard : Claim7 := { stood := { row := coreSumsRow, standIns := [], harness := (true, "df8bbd1f98fac33b3775e19fedf1ca6eec3c18ce2bc9459f3ee47e67e01cb90c"), looks := false }, kinds := [], alts := [], laidByText := true, laidKinds := [.data, .data, .data, .pinned], laidTests := true, laidLooks := .later }
def CoreSumsCardSaid : Prop := Claim7.holds Tryz.pinned (.plain (OpenSpec.ofChange coreSumsSpec)) coreSumsCard

/-- THE TIED CARD OF 'bondstoretop.CoreEnds'. -/
def coreEndsCard : Claim7 := { stood := { row := coreEndsRow, standIns := [], harness := (true, "df8bbd1f98fac33b3775e19fedf1ca6eec3c18ce2bc9459f3ee47e67e01cb90c"), looks := false }, kinds := [], alts := [], laidByText := true, laidKinds := [.data, .data, .data, .pinned], laidTests := true, laidLooks := .later }
def CoreEndsCardSaid : Prop := Claim7.holds Tryz.pinned (.plain (OpenSpec.ofChange coreEndsSpec)) coreEndsCard

/-- THE TIED CARD OF 'bondstoretop.CoreSaves'. -/
def coreSavesCard : Claim7 := { stood := { row := coreSavesRow, standIns := [], harness := (true, "df8bbd1f98fac33b3775e19fedf1ca6eec3c18ce2bc9459f3ee47e67e01cb90c"), looks := false }, kinds := [], alts := [], laidByText := true, laidKinds := [.data, .data, .data, .pinned], laidTests := true, laidLooks := .later }
def CoreSavesCardSaid : Prop := Claim7.holds Tryz.pinned (.plain (OpenSpec.ofChange coreSavesSpec)) coreSavesCard

/-- THE TIED CARD OF 'bondstoretop.CoreStamps'. -/
def coreStampsCard : Claim7 := { stood := { row := coreStampsRow, standIns := [], harness := (true, "df8bbd1f98fac33b3775e19fedf1ca6eec3c18ce2bc9459f3ee47e67e01cb90c"), looks := false }, kinds := [], alts := [], laidByText := true, laidKinds := [.data, .data, .data, .pinned], laidTests := true, laidLooks := .later }
def CoreStampsCardSaid : Prop := Claim7.holds Tryz.pinned (.plain (OpenSpec.ofChange coreStampsSpec)) coreStampsCard

/-- THE TIED CARD OF 'bondstoretop.CoreLimits'. -/
def coreLimitsCard : Claim7 := { stood := { row := coreLimitsRow, standIns := [], harness := (true, "df8bbd1f98fac33b3775e19fedf1ca6eec3c18ce2bc9459f3ee47e67e01cb90c"), looks := false }, kinds := [], alts := [], laidByText := true, laidKinds := [.data, .data, .data, .pinned], laidTests := true, laidLooks := .later }
def CoreLimitsCardSaid : Prop := Claim7.holds Tryz.pinned (.plain (OpenSpec.ofChange coreLimitsSpec)) coreLimitsCard

/-- THE TIED CARD OF 'bondstoretop.CoreChains'. -/
def coreChainsCard : Claim7 := { stood := { row := coreChainsRow, standIns := [], harness := (true, "df8bbd1f98fac33b3775e19fedf1ca6eec3c18ce2bc9459f3ee47e67e01cb90c"), looks := false }, kinds := [], alts := [], laidByText := true, laidKinds := [.data, .data, .data, .pinned], laidTests := true, laidLooks := .later }
def CoreChainsCardSaid : Prop := Claim7.holds Tryz.pinned (.plain (OpenSpec.ofChange coreChainsSpec)) coreChainsCard

/-- THE TIED CARD OF 'bondstoretop.CoreAgain'. -/
def coreAgainCard : Claim7 := { stood := { row := coreAgainRow, standIns := [], harness := (true, "df8bbd1f98fac33b3775e19fedf1ca6eec3c18ce2bc9459f3ee47e67e01cb90c"), looks := false }, kinds := [], alts := [], laidByText := true, laidKinds := [.data, .data, .data, .pinned], laidTests := true, laidLooks := .later }
def CoreAgainCardSaid : Prop := Claim7.holds Tryz.pinned (.plain (OpenSpec.ofChange coreAgainSpec)) coreAgainCard

/-- THE TIED CARD OF 'bondstoretop.CoreDisk'. -/
def coreDiskCard : Claim7 := { stood := { row := coreDiskRow, standIns := [], harness := (true, "df8bbd1f98fac33b3775e19fedf1ca6eec3c18ce2bc9459f3ee47e67e01cb90c"), looks := false }, kinds := [], alts := [], laidByText := true, laidKinds := [.data, .data, .data, .pinned], laidTests := true, laidLooks := .later }
def CoreDiskCardSaid : Prop := Claim7.holds Tryz.pinned (.plain (OpenSpec.ofChange coreDiskSpec)) coreDiskCard

/-- THE TIED CARD OF 'bondstoretop.CoreReads'. -/
def coreReadsCard : Claim7 := { stood := { row := coreReadsRow, standIns := [], harness := (true, "df8bbd1f98fac33b3775e19fedf1ca6eec3c18ce2bc9459f3ee47e67e01cb90c"), looks := false }, kinds := [], alts := [], laidByText := true, laidKinds := [.data, .data, .data, .pinned], laidTests := true, laidLooks := .later }
def CoreReadsCardSaid : Prop := Claim7.holds Tryz.pinned (.plain (OpenSpec.ofChange coreReadsSpec)) coreReadsCard

/-- THE SECOND FORM's CARD OF 'bondstoretop.CoreServes'. -/
def coreServesUptoCard : Claim7 := { stood := { row := coreServesUptoRow, standIns := [], harness := (true, "df8bbd1f98fac33b3775e19fedf1ca6eec3c18ce2bc9459f3ee47e67e01cb90c"), looks := false }, kinds := [], alts := [], laidByText := true, laidKinds := [.data, .data, .data, .pinned], laidTests := true, laidLooks := .later }
def CoreServesUptoCardSaid : Prop := Claim7.holds Tryz.pinned (.plain (OpenSpec.upto coreServesSpec)) coreServesUptoCard

/-- THE SECOND FORM's CARD OF 'bondstoretop.CoreCrash'. -/
def coreCrashUptoCard : Claim7 := { stood := { row := coreCrashUptoRow, standIns := [], harness := (true, "df8bbd1f98fac33b3775e19fedf1ca6eec3c18ce2bc9459f3ee47e67e01cb90c"), looks := false }, kinds := [], alts := [], laidByText := true, laidKinds := [.data, .data, .data, .pinned], laidTests := true, laidLooks := .later }
def CoreCrashUptoCardSaid : Prop := Claim7.holds Tryz.pinned (.plain (OpenSpec.upto coreCrashSpec)) coreCrashUptoCard

/-- THE SECOND FORM's CARD OF 'bondstoretop.CoreSums'. -/
def coreSumsUptoCard : Claim7 := { stood := { row := coreSumsUptoRow, standIns := [], harness := (true, "df8bbd1f98fac33b3775e19fedf1ca6eec3c18ce2bc9459f3ee47e67e01cb90c"), looks := false }, kinds := [], alts := [], laidByText := true, laidKinds := [.data, .data, .data, .pinned], laidTests := true, laidLooks := .later }
def CoreSumsUptoCardSaid : Prop := Claim7.holds Tryz.pinned (.plain (OpenSpec.upto coreSumsSpec)) coreSumsUptoCard

/-- THE SECOND FORM's CARD OF 'bondstoretop.CoreEnds'. -/
def coreEndsUptoCard : Claim7 := { stood := { row := coreEndsUptoRow, standIns := [], harness := (true, "df8bbd1f98fac33b3775e19fedf1ca6eec3c18ce2bc9459f3ee47e67e01cb90c"), looks := false }, kinds := [], alts := [], laidByText := true, laidKinds := [.data, .data, .data, .pinned], laidTests := true, laidLooks := .later }
def CoreEndsUptoCardSaid : Prop := Claim7.holds Tryz.pinned (.plain (OpenSpec.upto coreEndsSpec)) coreEndsUptoCard

/-- THE SECOND FORM's CARD OF 'bondstoretop.CoreSaves'. -/
def coreSavesUptoCard : Claim7 := { stood := { row := coreSavesUptoRow, standIns := [], harness := (true, "df8bbd1f98fac33b3775e19fedf1ca6eec3c18ce2bc9459f3ee47e67e01cb90c"), looks := false }, kinds := [], alts := [], laidByText := true, laidKinds := [.data, .data, .data, .pinned], laidTests := true, laidLooks := .later }
def CoreSavesUptoCardSaid : Prop := Claim7.holds Tryz.pinned (.plain (OpenSpec.upto coreSavesSpec)) coreSavesUptoCard

/-- THE SECOND FORM's CARD OF 'bondstoretop.CoreStamps'. -/
def coreStampsUptoCard : Claim7 := { stood := { row := coreStampsUptoRow, standIns := [], harness := (true, "df8bbd1f98fac33b3775e19fedf1ca6eec3c18ce2bc9459f3ee47e67e01cb90c"), looks := false }, kinds := [], alts := [], laidByText := true, laidKinds := [.data, .data, .data, .pinned], laidTests := true, laidLooks := .later }
def CoreStampsUptoCardSaid : Prop := Claim7.holds Tryz.pinned (.plain (OpenSpec.upto coreStampsSpec)) coreStampsUptoCard

/-- THE SECOND FORM's CARD OF 'bondstoretop.CoreLimits'. -/
def coreLimitsUptoCard : Claim7 := { stood := { row := coreLimitsUptoRow, standIns := [], harness := (true, "df8bbd1f98fac33b3775e19fedf1ca6eec3c18ce2bc9459f3ee47e67e01cb90c"), looks := false }, kinds := [], alts := [], laidByText := true, laidKinds := [.data, .data, .data, .pinned], laidTests := true, laidLooks := .later }
def CoreLimitsUptoCardSaid : Prop := Claim7.holds Tryz.pinned (.plain (OpenSpec.upto coreLimitsSpec)) coreLimitsUptoCard

/-- THE SECOND FORM's CARD OF 'bondstoretop.CoreChains'. -/
def coreChainsUptoCard : Claim7 := { stood := { row := coreChainsUptoRow, standIns := [], harness := (true, "df8bbd1f98fac33b3775e19fedf1ca6eec3c18ce2bc9459f3ee47e67e01cb90c"), looks := false }, kinds := [], alts := [], laidByText := true, laidKinds := [.data, .data, .data, .pinned], laidTests := true, laidLooks := .later }
def CoreChainsUptoCardSaid : Prop := Claim7.holds Tryz.pinned (.plain (OpenSpec.upto coreChainsSpec)) coreChainsUptoCard

/-- THE SECOND FORM's CARD OF 'bondstoretop.CoreAgain'. -/
def coreAgainUptoCard : Claim7 := { stood := { row := coreAgainUptoRow, standIns := [], harness := (true, "df8bbd1f98fac33b3775e19fedf1ca6eec3c18ce2bc9459f3ee47e67e01cb90c"), looks := false }, kinds := [], alts := [], laidByText := true, laidKinds := [.data, .data, .data, .pinned], laidTests := true, laidLooks := .later }
def CoreAgainUptoCardSaid : Prop := Claim7.holds Tryz.pinned (.plain (OpenSpec.upto coreAgainSpec)) coreAgainUptoCard

/-- THE SECOND FORM's CARD OF 'bondstoretop.CoreDisk'. -/
def coreDiskUptoCard : Claim7 := { stood := { row := coreDiskUptoRow, standIns := [], harness := (true, "df8bbd1f98fac33b3775e19fedf1ca6eec3c18ce2bc9459f3ee47e67e01cb90c"), looks := false }, kinds := [], alts := [], laidByText := true, laidKinds := [.data, .data, .data, .pinned], laidTests := true, laidLooks := .later }
def CoreDiskUptoCardSaid : Prop := Claim7.holds Tryz.pinned (.plain (OpenSpec.upto coreDiskSpec)) coreDiskUptoCard

/-- THE SECOND FORM's CARD OF 'bondstoretop.CoreReads'. -/
def coreReadsUptoCard : Claim7 := { stood := { row := coreReadsUptoRow, standIns := [], harness := (true, "df8bbd1f98fac33b3775e19fedf1ca6eec3c18ce2bc9459f3ee47e67e01cb90c"), looks := false }, kinds := [], alts := [], laidByText := true, laidKinds := [.data, .data, .data, .pinned], laidTests := true, laidLooks := .later }
def CoreReadsUptoCardSaid : Prop := Claim7.holds Tryz.pinned (.plain (OpenSpec.upto coreReadsSpec)) coreReadsUptoCard
end Rows
end Go.Proofs.YtibneekkkdnmgaaGreatDoor
