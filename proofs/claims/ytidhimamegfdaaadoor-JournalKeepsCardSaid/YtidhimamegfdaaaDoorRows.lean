/-
  NARROWER THAN 'FOR EVERY INPUT', by the rows' own cells (each row's printed sentence says how): StampLays: laid · SlotOver: laid · SlotPuts: laid · StampCrash: laid · CrownBytes: laid · CrownReads: laid · CrownPuts: laid · SlotCrash: laid · CrownCrash: laid · JournalRoom: laid · JournalRaw: laid · JournalFlying: laid · JournalRestarts: laid · JournalKeeps: laid.
  DERIVED. THE GIVEN ROWS OF THIS SEAT. 14 by the template 'for every input the law returns true; each argument reads behind the call as it read before'; 0 by the template 'total and deterministic' (their statements: YtidhimamegfdaaaDoorTotals.lean).
  GIVEN WITH THE SEED: the statements are not yours to turn. If you find one false, say at which input.
  Laid BY PROGRAM, IN A SANDBOX (cutbox-rows.mjs): the forced cells as the released guide's own fill.sh prints them over the translation d10e953f2810ffcb… (all of the seat's roots in one cut). By AI agents, Wed Nov 11 2026. No macro, syntax, notation, axiom, sorry.
-/
import Derived.Test.YtidhimamegfdaaaDoorChecked
import GoSem.PinnedTables
import GoSem.Claim
import GoSem.ClaimJoined
import GoSem.ClaimMapViews
import Derived.JoinedTies
import Derived.KernelRfl
namespace Go.Proofs.YtidhimamegfdaaaDoor
/- THE CELL 'sum', in the pinned program and in every row, IS THE sha256 OF THE DUMP (.gsa) THAT YtidhimamegfdaaaDoorProg.lean LOADS. Nothing in Lean hashes anything: it is a label: what it is worth is what the hold of that sum in a sandbox is worth. -/
noncomputable def Tryd.pinned : Pinned := { name := "ytidhimamegfdaaadoor", sum := "d10e953f2810ffcb63a72d0105b998ddf73739390488f35af601dbb929da2a58", checked := Tryd.checked }
namespace Rows
def none {H : Type} : Left H := { results := [], args := [] }

/- WHAT THE LISTED PACKAGE-LEVEL VARIABLES READ AS WHEN THE CALL BEGINS. Each datum BY PROGRAM (the guide's laid-datum.mjs) off the statement by which the dump's own 'gosem.cut.vars' lays the variable. In a bare row this is a premise. The card (YtidhimamegfdaaaDoorCards.lean) ties it to the program's text. -/
def laid_unicode_utf8_acceptRanges {H : Type} : DataW H := .agg [.agg [.lit (.int .u8 128), .lit (.int .u8 191)], .agg [.lit (.int .u8 160), .lit (.int .u8 191)], .agg [.lit (.int .u8 128), .lit (.int .u8 159)], .agg [.lit (.int .u8 144), .lit (.int .u8 191)], .agg [.lit (.int .u8 128), .lit (.int .u8 143)], .agg [.lit (.int .u8 0), .lit (.int .u8 0)], .agg [.lit (.int .u8 0), .lit (.int .u8 0)], .agg [.lit (.int .u8 0), .lit (.int .u8 0)], .agg [.lit (.int .u8 0), .lit (.int .u8 0)], .agg [.lit (.int .u8 0), .lit (.int .u8 0)], .agg [.lit (.int .u8 0), .lit (.int .u8 0)], .agg [.lit (.int .u8 0), .lit (.int .u8 0)], .agg [.lit (.int .u8 0), .lit (.int .u8 0)], .agg [.lit (.int .u8 0), .lit (.int .u8 0)], .agg [.lit (.int .u8 0), .lit (.int .u8 0)], .agg [.lit (.int .u8 0), .lit (.int .u8 0)]]
/-- One of Go's own tables, pinned by name: the form's constant. -/
def laid_unicode_utf8_first : DataW Unit := Go.Pinned.utf8First

/-- 'bondstorelaw05.StampLays': WHATEVER THE INPUT: true; the input reads as it did. -/
def stampLaysSpec : ChangeSpec := { name := "stampLays", fn := fun _ => fun
  | [d1, d2, d3, d4, d5, d6] => { results := [.lit (.bool true)], args := [d1, d2, d3, d4, d5, d6] }
  | _ => none }
def stampLaysRow : OpenClaim := { program := "ytidhimamegfdaaadoor", sum := "d10e953f2810ffcb63a72d0105b998ddf73739390488f35af601dbb929da2a58", func := "bondstore/bondstorelaw05.StampLays", spec := "stampLays", inPlace := ["internal/abi.NoEscape", "internal/bytealg.MakeNoZero", "internal/bytealg.IndexByteString", "internal/bytealg.IndexString"], named := ["unicode/utf8.first", "unicode/utf8.acceptRanges", "internal/bytealg.MaxLen"], apart := false, laid := [("unicode/utf8.acceptRanges", laid_unicode_utf8_acceptRanges), ("unicode/utf8.first", laid_unicode_utf8_first)] }
def StampLaysSaid : Prop := stampLaysRow.holds Tryd.pinned (OpenSpec.ofChange stampLaysSpec)

/-- ITS FALSE NEIGHBOUR: 'it returns false'. Refute it at one input. -/
def stampLaysWrong : ChangeSpec := { name := "stampLays", fn := fun _ => fun
  | [d1, d2, d3, d4, d5, d6] => { results := [.lit (.bool false)], args := [d1, d2, d3, d4, d5, d6] }
  | _ => none }
def StampLaysWrongFalsely : Prop := stampLaysRow.holds Tryd.pinned (OpenSpec.ofChange stampLaysWrong)

/-- 'bondstorelaw07.SlotOver': WHATEVER THE INPUT: true; the input reads as it did. -/
def slotOverSpec : ChangeSpec := { name := "slotOver", fn := fun _ => fun
  | [d1, d2, d3, d4] => { results := [.lit (.bool true)], args := [d1, d2, d3, d4] }
  | _ => none }
def slotOverRow : OpenClaim := { program := "ytidhimamegfdaaadoor", sum := "d10e953f2810ffcb63a72d0105b998ddf73739390488f35af601dbb929da2a58", func := "bondstore/bondstorelaw07.SlotOver", spec := "slotOver", inPlace := ["internal/abi.NoEscape", "internal/bytealg.MakeNoZero", "internal/bytealg.IndexByteString", "internal/bytealg.IndexString"], named := ["unicode/utf8.first", "unicode/utf8.acceptRanges", "internal/bytealg.MaxLen"], apart := false, laid := [("unicode/utf8.acceptRanges", laid_unicode_utf8_acceptRanges), ("unicode/utf8.first", laid_unicode_utf8_first)] }
def SlotOverSaid : Prop := slotOverRow.holds Tryd.pinned (OpenSpec.ofChange slotOverSpec)

/-- ITS FALSE NEIGHBOUR: 'it returns false'. Refute it at one input. -/
def slotOverWrong : ChangeSpec := { name := "slotOver", fn := fun _ => fun
  | [d1, d2, d3, d4] => { results := [.lit (.bool false)], args := [d1, d2, d3, d4] }
  | _ => none }
def SlotOverWrongFalsely : Prop := slotOverRow.holds Tryd.pinned (OpenSpec.ofChange slotOverWrong)

/-- 'bondstorelaw07.SlotPuts': WHATEVER THE INPUT: true; the input reads as it did. -/
def slotPutsSpec : ChangeSpec := { name := "slotPuts", fn := fun _ => fun
  | [d1, d2, d3, d4, d5] => { results := [.lit (.bool true)], args := [d1, d2, d3, d4, d5] }
  | _ => none }
def slotPutsRow : OpenClaim := { program := "ytidhimamegfdaaadoor", sum := "d10e953f2810ffcb63a72d0105b998ddf73739390488f35af601dbb929da2a58", func := "bondstore/bondstorelaw07.SlotPuts", spec := "slotPuts", inPlace := ["internal/abi.NoEscape", "internal/bytealg.MakeNoZero", "internal/bytealg.IndexByteString", "internal/bytealg.IndexString"], named := ["unicode/utf8.first", "unicode/utf8.acceptRanges", "internal/bytealg.MaxLen"], apart := false, laid := [("unicode/utf8.acceptRanges", laid_unicode_utf8_acceptRanges), ("unicode/utf8.first", laid_unicode_utf8_first)] }
def SlotPutsSaid : Prop := slotPutsRow.holds Tryd.pinned (OpenSpec.ofChange slotPutsSpec)

/-- ITS FALSE NEIGHBOUR: 'it returns false'. Refute it at one input. -/
def slotPutsWrong : ChangeSpec := { name := "slotPuts", fn := fun _ => fun
  | [d1, d2, d3, d4, d5] => { results := [.lit (.bool false)], args := [d1, d2, d3, d4, d5] }
  | _ => none }
def SlotPutsWrongFalsely : Prop := slotPutsRow.holds Tryd.pinned (OpenSpec.ofChange slotPutsWrong)

/-- 'bondstorelaw05.StampCrash': WHATEVER THE INPUT: true; the input reads as it did. -/
def stampCrashSpec : ChangeSpec := { name := "stampCrash", fn := fun _ => fun
  | [d1, d2, d3, d4, d5] => { results := [.lit (.bool true)], args := [d1, d2, d3, d4, d5] }
  | _ => none }
def stampCrashRow : OpenClaim := { program := "ytidhimamegfdaaadoor", sum := "d10e953f2810ffcb63a72d0105b998ddf73739390488f35af601dbb929da2a58", func := "bondstore/bondstorelaw05.StampCrash", spec := "stampCrash", inPlace := ["internal/abi.NoEscape", "internal/bytealg.MakeNoZero", "internal/bytealg.IndexByteString", "internal/bytealg.IndexString"], named := ["unicode/utf8.first", "unicode/utf8.acceptRanges", "internal/bytealg.MaxLen"], apart := false, laid := [("unicode/utf8.acceptRanges", laid_unicode_utf8_acceptRanges), ("unicode/utf8.first", laid_unicode_utf8_first)] }
def StampCrashSaid : Prop := stampCrashRow.holds Tryd.pinned (OpenSpec.ofChange stampCrashSpec)

/-- ITS FALSE NEIGHBOUR: 'it returns false'. Refute it at one input. -/
def stampCrashWrong : ChangeSpec := { name := "stampCrash", fn := fun _ => fun
  | [d1, d2, d3, d4, d5] => { results := [.lit (.bool false)], args := [d1, d2, d3, d4, d5] }
  | _ => none }
def StampCrashWrongFalsely : Prop := stampCrashRow.holds Tryd.pinned (OpenSpec.ofChange stampCrashWrong)

/-- 'bondstorelaw08.CrownBytes': WHATEVER THE INPUT: true; the input reads as it did. -/
def crownBytesSpec : ChangeSpec := { name := "crownBytes", fn := fun _ => fun
  | [d] => { results := [.lit (.bool true)], args := [d] }
  | _ => none }
def crownBytesRow : OpenClaim := { program := "ytidhimamegfdaaadoor", sum := "d10e953f2810ffcb63a72d0105b998ddf73739390488f35af601dbb929da2a58", func := "bondstore/bondstorelaw08.CrownBytes", spec := "crownBytes", inPlace := ["internal/abi.NoEscape", "internal/bytealg.MakeNoZero", "internal/bytealg.IndexByteString", "internal/bytealg.IndexString"], named := ["unicode/utf8.first", "unicode/utf8.acceptRanges", "internal/bytealg.MaxLen"], apart := false, laid := [("unicode/utf8.acceptRanges", laid_unicode_utf8_acceptRanges), ("unicode/utf8.first", laid_unicode_utf8_first)] }
def CrownBytesSaid : Prop := crownBytesRow.holds Tryd.pinned (OpenSpec.ofChange crownBytesSpec)

/-- ITS FALSE NEIGHBOUR: 'it returns false'. Refute it at one input. -/
def crownBytesWrong : ChangeSpec := { name := "crownBytes", fn := fun _ => fun
  | [d] => { results := [.lit (.bool false)], args := [d] }
  | _ => none }
def CrownBytesWrongFalsely : Prop := crownBytesRow.holds Tryd.pinned (OpenSpec.ofChange crownBytesWrong)

/-- 'bondstorelaw08.CrownReads': WHATEVER THE INPUT: true; the input reads as it did. -/
def crownReadsSpec : ChangeSpec := { name := "crownReads", fn := fun _ => fun
  | [d] => { results := [.lit (.bool true)], args := [d] }
  | _ => none }
def crownReadsRow : OpenClaim := { program := "ytidhimamegfdaaadoor", sum := "d10e953f2810ffcb63a72d0105b998ddf73739390488f35af601dbb929da2a58", func := "bondstore/bondstorelaw08.CrownReads", spec := "crownReads", inPlace := ["internal/abi.NoEscape", "internal/bytealg.MakeNoZero", "internal/bytealg.IndexByteString", "internal/bytealg.IndexString"], named := ["unicode/utf8.first", "unicode/utf8.acceptRanges", "internal/bytealg.MaxLen"], apart := false, laid := [("unicode/utf8.acceptRanges", laid_unicode_utf8_acceptRanges), ("unicode/utf8.first", laid_unicode_utf8_first)] }
def CrownReadsSaid : Prop := crownReadsRow.holds Tryd.pinned (OpenSpec.ofChange crownReadsSpec)

/-- ITS FALSE NEIGHBOUR: 'it returns false'. Refute it at one input. -/
def crownReadsWrong : ChangeSpec := { name := "crownReads", fn := fun _ => fun
  | [d] => { results := [.lit (.bool false)], args := [d] }
  | _ => none }
def CrownReadsWrongFalsely : Prop := crownReadsRow.holds Tryd.pinned (OpenSpec.ofChange crownReadsWrong)

/-- 'bondstorelaw08.CrownPuts': WHATEVER THE INPUT: true; the input reads as it did. -/
def crownPutsSpec : ChangeSpec := { name := "crownPuts", fn := fun _ => fun
  | [d1, d2] => { results := [.lit (.bool true)], args := [d1, d2] }
  | _ => none }
def crownPutsRow : OpenClaim := { program := "ytidhimamegfdaaadoor", sum := "d10e953f2810ffcb63a72d0105b998ddf73739390488f35af601dbb929da2a58", func := "bondstore/bondstorelaw08.CrownPuts", spec := "crownPuts", inPlace := ["internal/abi.NoEscape", "internal/bytealg.MakeNoZero", "internal/bytealg.IndexByteString", "internal/bytealg.IndexString"], named := ["unicode/utf8.first", "unicode/utf8.acceptRanges", "internal/bytealg.MaxLen"], apart := false, laid := [("unicode/utf8.acceptRanges", laid_unicode_utf8_acceptRanges), ("unicode/utf8.first", laid_unicode_utf8_first)] }
def CrownPutsSaid : Prop := crownPutsRow.holds Tryd.pinned (OpenSpec.ofChange crownPutsSpec)

/-- ITS FALSE NEIGHBOUR: 'it returns false'. Refute it at one input. -/
def crownPutsWrong : ChangeSpec := { name := "crownPuts", fn := fun _ => fun
  | [d1, d2] => { results := [.lit (.bool false)], args := [d1, d2] }
  | _ => none }
def CrownPutsWrongFalsely : Prop := crownPutsRow.holds Tryd.pinned (OpenSpec.ofChange crownPutsWrong)

/-- 'bondstorelaw07.SlotCrash': WHATEVER THE INPUT: true; the input reads as it did. -/
def slotCrashSpec : ChangeSpec := { name := "slotCrash", fn := fun _ => fun
  | [d1, d2, d3, d4, d5, d6, d7] => { results := [.lit (.bool true)], args := [d1, d2, d3, d4, d5, d6, d7] }
  | _ => none }
def slotCrashRow : OpenClaim := { program := "ytidhimamegfdaaadoor", sum := "d10e953f2810ffcb63a72d0105b998ddf73739390488f35af601dbb929da2a58", func := "bondstore/bondstorelaw07.SlotCrash", spec := "slotCrash", inPlace := ["internal/abi.NoEscape", "internal/bytealg.MakeNoZero", "internal/bytealg.IndexByteString", "internal/bytealg.IndexString"], named := ["unicode/utf8.first", "unicode/utf8.acceptRanges", "internal/bytealg.MaxLen"], apart := false, laid := [("unicode/utf8.acceptRanges", laid_unicode_utf8_acceptRanges), ("unicode/utf8.first", laid_unicode_utf8_first)] }
def SlotCrashSaid : Prop := slotCrashRow.holds Tryd.pinned (OpenSpec.ofChange slotCrashSpec)

/-- ITS FALSE NEIGHBOUR: 'it returns false'. Refute it at one input. -/
def slotCrashWrong : ChangeSpec := { name := "slotCrash", fn := fun _ => fun
  | [d1, d2, d3, d4, d5, d6, d7] => { results := [.lit (.bool false)], args := [d1, d2, d3, d4, d5, d6, d7] }
  | _ => none }
def SlotCrashWrongFalsely : Prop := slotCrashRow.holds Tryd.pinned (OpenSpec.ofChange slotCrashWrong)

/-- 'bondstorelaw08.CrownCrash': WHATEVER THE INPUT: true; the input reads as it did. -/
def crownCrashSpec : ChangeSpec := { name := "crownCrash", fn := fun _ => fun
  | [d1, d2, d3, d4, d5, d6, d7] => { results := [.lit (.bool true)], args := [d1, d2, d3, d4, d5, d6, d7] }
  | _ => none }
def crownCrashRow : OpenClaim := { program := "ytidhimamegfdaaadoor", sum := "d10e953f2810ffcb63a72d0105b998ddf73739390488f35af601dbb929da2a58", func := "bondstore/bondstorelaw08.CrownCrash", spec := "crownCrash", inPlace := ["internal/abi.NoEscape", "internal/bytealg.MakeNoZero", "internal/bytealg.IndexByteString", "internal/bytealg.IndexString"], named := ["unicode/utf8.first", "unicode/utf8.acceptRanges", "internal/bytealg.MaxLen"], apart := false, laid := [("unicode/utf8.acceptRanges", laid_unicode_utf8_acceptRanges), ("unicode/utf8.first", laid_unicode_utf8_first)] }
def CrownCrashSaid : Prop := crownCrashRow.holds Tryd.pinned (OpenSpec.ofChange crownCrashSpec)

/-- ITS FALSE NEIGHBOUR: 'it returns false'. Refute it at one input. -/
def crownCrashWrong : ChangeSpec := { name := "crownCrash", fn := fun _ => fun
  | [d1, d2, d3, d4, d5, d6, d7] => { results := [.lit (.bool false)], args := [d1, d2, d3, d4, d5, d6, d7] }
  | _ => none }
def CrownCrashWrongFalsely : Prop := crownCrashRow.holds Tryd.pinned (OpenSpec.ofChange crownCrashWrong)

/-- 'bondstorelaw06.JournalRoom': WHATEVER THE INPUT: true; the input reads as it did. -/
def journalRoomSpec : ChangeSpec := { name := "journalRoom", fn := fun _ => fun
  | [d1, d2, d3] => { results := [.lit (.bool true)], args := [d1, d2, d3] }
  | _ => none }
def journalRoomRow : OpenClaim := { program := "ytidhimamegfdaaadoor", sum := "d10e953f2810ffcb63a72d0105b998ddf73739390488f35af601dbb929da2a58", func := "bondstore/bondstorelaw06.JournalRoom", spec := "journalRoom", inPlace := ["internal/abi.NoEscape", "internal/bytealg.MakeNoZero", "internal/bytealg.IndexByteString", "internal/bytealg.IndexString"], named := ["unicode/utf8.first", "unicode/utf8.acceptRanges", "internal/bytealg.MaxLen"], apart := false, laid := [("unicode/utf8.acceptRanges", laid_unicode_utf8_acceptRanges), ("unicode/utf8.first", laid_unicode_utf8_first)] }
def JournalRoomSaid : Prop := journalRoomRow.holds Tryd.pinned (OpenSpec.ofChange journalRoomSpec)

/-- ITS FALSE NEIGHBOUR: 'it returns false'. Refute it at one input. -/
def journalRoomWrong : ChangeSpec := { name := "journalRoom", fn := fun _ => fun
  | [d1, d2, d3] => { results := [.lit (.bool false)], args := [d1, d2, d3] }
  | _ => none }
def JournalRoomWrongFalsely : Prop := journalRoomRow.holds Tryd.pinned (OpenSpec.ofChange journalRoomWrong)

/-- 'bondstorelaw06.JournalRaw': WHATEVER THE INPUT: true; the input reads as it did. -/
def journalRawSpec : ChangeSpec := { name := "journalRaw", fn := fun _ => fun
  | [d1, d2, d3, d4] => { results := [.lit (.bool true)], args := [d1, d2, d3, d4] }
  | _ => none }
def journalRawRow : OpenClaim := { program := "ytidhimamegfdaaadoor", sum := "d10e953f2810ffcb63a72d0105b998ddf73739390488f35af601dbb929da2a58", func := "bondstore/bondstorelaw06.JournalRaw", spec := "journalRaw", inPlace := ["internal/abi.NoEscape", "internal/bytealg.MakeNoZero", "internal/bytealg.IndexByteString", "internal/bytealg.IndexString"], named := ["unicode/utf8.first", "unicode/utf8.acceptRanges", "internal/bytealg.MaxLen"], apart := false, laid := [("unicode/utf8.acceptRanges", laid_unicode_utf8_acceptRanges), ("unicode/utf8.first", laid_unicode_utf8_first)] }
def JournalRawSaid : Prop := journalRawRow.holds Tryd.pinned (OpenSpec.ofChange journalRawSpec)

/-- ITS FALSE NEIGHBOUR: 'it returns false'. Refute it at one input. -/
def journalRawWrong : ChangeSpec := { name := "journalRaw", fn := fun _ => fun
  | [d1, d2, d3, d4] => { results := [.lit (.bool false)], args := [d1, d2, d3, d4] }
  | _ => none }
def JournalRawWrongFalsely : Prop := journalRawRow.holds Tryd.pinned (OpenSpec.ofChange journalRawWrong)

/-- 'bondstorelaw06.JournalFlying': WHATEVER THE INPUT: true; the input reads as it did. -/
def journalFlyingSpec : ChangeSpec := { name := "journalFlying", fn := fun _ => fun
  | [d1, d2, d3, d4, d5, d6] => { results := [.lit (.bool true)], args := [d1, d2, d3, d4, d5, d6] }
  | _ => none }
def journalFlyingRow : OpenClaim := { program := "ytidhimamegfdaaadoor", sum := "d10e953f2810ffcb63a72d0105b998ddf73739390488f35af601dbb929da2a58", func := "bondstore/bondstorelaw06.JournalFlying", spec := "journalFlying", inPlace := ["internal/abi.NoEscape", "internal/bytealg.MakeNoZero", "internal/bytealg.IndexByteString", "internal/bytealg.IndexString"], named := ["unicode/utf8.first", "unicode/utf8.acceptRanges", "internal/bytealg.MaxLen"], apart := false, laid := [("unicode/utf8.acceptRanges", laid_unicode_utf8_acceptRanges), ("unicode/utf8.first", laid_unicode_utf8_first)] }
def JournalFlyingSaid : Prop := journalFlyingRow.holds Tryd.pinned (OpenSpec.ofChange journalFlyingSpec)

/-- ITS FALSE NEIGHBOUR: 'it returns false'. Refute it at one input. -/
def journalFlyingWrong : ChangeSpec := { name := "journalFlying", fn := fun _ => fun
  | [d1, d2, d3, d4, d5, d6] => { results := [.lit (.bool false)], args := [d1, d2, d3, d4, d5, d6] }
  | _ => none }
def JournalFlyingWrongFalsely : Prop := journalFlyingRow.holds Tryd.pinned (OpenSpec.ofChange journalFlyingWrong)

/-- 'bondstorelaw06.JournalRestarts': WHATEVER THE INPUT: true; the input reads as it did. -/
def journalRestartsSpec : ChangeSpec := { name := "journalRestarts", fn := fun _ => fun
  | [d1, d2, d3] => { results := [.lit (.bool true)], args := [d1, d2, d3] }
  | _ => none }
def journalRestartsRow : OpenClaim := { program := "ytidhimamegfdaaadoor", sum := "d10e953f2810ffcb63a72d0105b998ddf73739390488f35af601dbb929da2a58", func := "bondstore/bondstorelaw06.JournalRestarts", spec := "journalRestarts", inPlace := ["internal/abi.NoEscape", "internal/bytealg.MakeNoZero", "internal/bytealg.IndexByteString", "internal/bytealg.IndexString"], named := ["unicode/utf8.first", "unicode/utf8.acceptRanges", "internal/bytealg.MaxLen"], apart := false, laid := [("unicode/utf8.acceptRanges", laid_unicode_utf8_acceptRanges), ("unicode/utf8.first", laid_unicode_utf8_first)] }
def JournalRestartsSaid : Prop := journalRestartsRow.holds Tryd.pinned (OpenSpec.ofChange journalRestartsSpec)

/-- ITS FALSE NEIGHBOUR: 'it returns false'. Refute it at one input. -/
def journalRestartsWrong : ChangeSpec := { name := "journalRestarts", fn := fun _ => fun
  | [d1, d2, d3] => { results := [.lit (.bool false)], args := [d1, d2, d3] }
  | _ => none }
def JournalRestartsWrongFalsely : Prop := journalRestartsRow.holds Tryd.pinned (OpenSpec.ofChange journalRestartsWrong)

/-- 'bondstorelaw06.JournalKeeps': WHATEVER THE INPUT: true; the input reads as it did. -/
def journalKeepsSpec : ChangeSpec := { name := "journalKeeps", fn := fun _ => fun
  | [d] => { results := [.lit (.bool true)], args := [d] }
  | _ => none }
def journalKeepsRow : OpenClaim := { program := "ytidhimamegfdaaadoor", sum := "d10e953f2810ffcb63a72d0105b998ddf73739390488f35af601dbb929da2a58", func := "bondstore/bondstorelaw06.JournalKeeps", spec := "journalKeeps", inPlace := ["internal/abi.NoEscape", "internal/bytealg.MakeNoZero", "internal/bytealg.IndexByteString", "internal/bytealg.IndexString"], named := ["unicode/utf8.first", "unicode/utf8.acceptRanges", "internal/bytealg.MaxLen"], apart := false, laid := [("unicode/utf8.acceptRanges", laid_unicode_utf8_acceptRanges), ("unicode/utf8.first", laid_unicode_utf8_first)] }
def JournalKeepsSaid : Prop := journalKeepsRow.holds Tryd.pinned (OpenSpec.ofChange journalKeepsSpec)

/-- ITS FALSE NEIGHBOUR: 'it returns false'. Refute it at one input. -/
def journalKeepsWrong : ChangeSpec := { name := "journalKeeps", fn := fun _ => fun
  | [d] => { results := [.lit (.bool false)], args := [d] }
  | _ => none }
def JournalKeepsWrongFalsely : Prop := journalKeepsRow.holds Tryd.pinned (OpenSpec.ofChange journalKeepsWrong)

/- THE SECOND FORM. 'bulk': how many values and letters a reading holds, each counted each time it is reached (what is shared counts as often as it is met; a slice's spare places count too). A statement '..UptoSaid' is the law's where the arguments, and the package variables that the reading takes, are together of bulk at most 1048576: NARROWER than '..Said'. Prove '..Said' where nothing that the law and all that it calls make is longer than what came in: it says more and counts as full. Else prove '..UptoSaid'. A law counts once. -/
mutual
def uptoBulk {H : Type} : DataW H → Nat
  | .lit (.string bytes) => bytes.length + 1
  | .lit _ => 1
  | .nil => 1
  | .ptr d => uptoBulk d + 1
  | .slice elems spare => uptoBulkAll elems + uptoBulkAll spare + 1
  | .agg parts => uptoBulkAll parts + 1
  | .iface _ d => uptoBulk d + 1
  | .map entries => uptoBulkEntries entries + 1
  | .held _ => 1
def uptoBulkAll {H : Type} : List (DataW H) → Nat
  | [] => 0
  | d :: r => uptoBulk d + uptoBulkAll r
def uptoBulkEntries {H : Type} : List (Lit × DataW H) → Nat
  | [] => 0
  | x :: r => uptoBulkEntry x + uptoBulkEntries r
def uptoBulkEntry {H : Type} : Lit × DataW H → Nat
  | (.string bytes, d) => bytes.length + uptoBulk d + 1
  | (_, d) => uptoBulk d + 1
 end
def uptoSmall : (H : Type) → List (DataW H) → Bool := fun _ ds => decide (uptoBulkAll ds ≤ 1048576)
def OpenSpec.upto (s : _root_.Go.ChangeSpec) : _root_.Go.OpenSpec := { _root_.Go.OpenSpec.ofChange s with cond := some uptoSmall }

/-- 'bondstorelaw05.StampLays', WHERE WHAT IT READS IS OF BULK AT MOST 1048576: true; the input reads as it did. -/
def stampLaysUptoRow : OpenClaim := { program := "ytidhimamegfdaaadoor", sum := "d10e953f2810ffcb63a72d0105b998ddf73739390488f35af601dbb929da2a58", func := "bondstore/bondstorelaw05.StampLays", spec := "stampLays", inPlace := ["internal/abi.NoEscape", "internal/bytealg.MakeNoZero", "internal/bytealg.IndexByteString", "internal/bytealg.IndexString"], named := ["unicode/utf8.first", "unicode/utf8.acceptRanges", "internal/bytealg.MaxLen"], apart := false, laid := [("unicode/utf8.acceptRanges", laid_unicode_utf8_acceptRanges), ("unicode/utf8.first", laid_unicode_utf8_first)], narrowed := true }
def StampLaysUptoSaid : Prop := stampLaysUptoRow.holds Tryd.pinned (OpenSpec.upto stampLaysSpec)

/-- 'bondstorelaw07.SlotOver', WHERE WHAT IT READS IS OF BULK AT MOST 1048576: true; the input reads as it did. -/
def slotOverUptoRow : OpenClaim := { program := "ytidhimamegfdaaadoor", sum := "d10e953f2810ffcb63a72d0105b998ddf73739390488f35af601dbb929da2a58", func := "bondstore/bondstorelaw07.SlotOver", spec := "slotOver", inPlace := ["internal/abi.NoEscape", "internal/bytealg.MakeNoZero", "internal/bytealg.IndexByteString", "internal/bytealg.IndexString"], named := ["unicode/utf8.first", "unicode/utf8.acceptRanges", "internal/bytealg.MaxLen"], apart := false, laid := [("unicode/utf8.acceptRanges", laid_unicode_utf8_acceptRanges), ("unicode/utf8.first", laid_unicode_utf8_first)], narrowed := true }
def SlotOverUptoSaid : Prop := slotOverUptoRow.holds Tryd.pinned (OpenSpec.upto slotOverSpec)

/-- 'bondstorelaw07.SlotPuts', WHERE WHAT IT READS IS OF BULK AT MOST 1048576: true; the input reads as it did. -/
def slotPutsUptoRow : OpenClaim := { program := "ytidhimamegfdaaadoor", sum := "d10e953f2810ffcb63a72d0105b998ddf73739390488f35af601dbb929da2a58", func := "bondstore/bondstorelaw07.SlotPuts", spec := "slotPuts", inPlace := ["internal/abi.NoEscape", "internal/bytealg.MakeNoZero", "internal/bytealg.IndexByteString", "internal/bytealg.IndexString"], named := ["unicode/utf8.first", "unicode/utf8.acceptRanges", "internal/bytealg.MaxLen"], apart := false, laid := [("unicode/utf8.acceptRanges", laid_unicode_utf8_acceptRanges), ("unicode/utf8.first", laid_unicode_utf8_first)], narrowed := true }
def SlotPutsUptoSaid : Prop := slotPutsUptoRow.holds Tryd.pinned (OpenSpec.upto slotPutsSpec)

/-- 'bondstorelaw05.StampCrash', WHERE WHAT IT READS IS OF BULK AT MOST 1048576: true; the input reads as it did. -/
def stampCrashUptoRow : OpenClaim := { program := "ytidhimamegfdaaadoor", sum := "d10e953f2810ffcb63a72d0105b998ddf73739390488f35af601dbb929da2a58", func := "bondstore/bondstorelaw05.StampCrash", spec := "stampCrash", inPlace := ["internal/abi.NoEscape", "internal/bytealg.MakeNoZero", "internal/bytealg.IndexByteString", "internal/bytealg.IndexString"], named := ["unicode/utf8.first", "unicode/utf8.acceptRanges", "internal/bytealg.MaxLen"], apart := false, laid := [("unicode/utf8.acceptRanges", laid_unicode_utf8_acceptRanges), ("unicode/utf8.first", laid_unicode_utf8_first)], narrowed := true }
def StampCrashUptoSaid : Prop := stampCrashUptoRow.holds Tryd.pinned (OpenSpec.upto stampCrashSpec)

/-- 'bondstorelaw08.CrownBytes', WHERE WHAT IT READS IS OF BULK AT MOST 1048576: true; the input reads as it did. -/
def crownBytesUptoRow : OpenClaim := { program := "ytidhimamegfdaaadoor", sum := "d10e953f2810ffcb63a72d0105b998ddf73739390488f35af601dbb929da2a58", func := "bondstore/bondstorelaw08.CrownBytes", spec := "crownBytes", inPlace := ["internal/abi.NoEscape", "internal/bytealg.MakeNoZero", "internal/bytealg.IndexByteString", "internal/bytealg.IndexString"], named := ["unicode/utf8.first", "unicode/utf8.acceptRanges", "internal/bytealg.MaxLen"], apart := false, laid := [("unicode/utf8.acceptRanges", laid_unicode_utf8_acceptRanges), ("unicode/utf8.first", laid_unicode_utf8_first)], narrowed := true }
def CrownBytesUptoSaid : Prop := crownBytesUptoRow.holds Tryd.pinned (OpenSpec.upto crownBytesSpec)

/-- 'bondstorelaw08.CrownReads', WHERE WHAT IT READS IS OF BULK AT MOST 1048576: true; the input reads as it did. -/
def crownReadsUptoRow : OpenClaim := { program := "ytidhimamegfdaaadoor", sum := "d10e953f2810ffcb63a72d0105b998ddf73739390488f35af601dbb929da2a58", func := "bondstore/bondstorelaw08.CrownReads", spec := "crownReads", inPlace := ["internal/abi.NoEscape", "internal/bytealg.MakeNoZero", "internal/bytealg.IndexByteString", "internal/bytealg.IndexString"], named := ["unicode/utf8.first", "unicode/utf8.acceptRanges", "internal/bytealg.MaxLen"], apart := false, laid := [("unicode/utf8.acceptRanges", laid_unicode_utf8_acceptRanges), ("unicode/utf8.first", laid_unicode_utf8_first)], narrowed := true }
def CrownReadsUptoSaid : Prop := crownReadsUptoRow.holds Tryd.pinned (OpenSpec.upto crownReadsSpec)

/-- 'bondstorelaw08.CrownPuts', WHERE WHAT IT READS IS OF BULK AT MOST 1048576: true; the input reads as it did. -/
def crownPutsUptoRow : OpenClaim := { program := "ytidhimamegfdaaadoor", sum := "d10e953f2810ffcb63a72d0105b998ddf73739390488f35af601dbb929da2a58", func := "bondstore/bondstorelaw08.CrownPuts", spec := "crownPuts", inPlace := ["internal/abi.NoEscape", "internal/bytealg.MakeNoZero", "internal/bytealg.IndexByteString", "internal/bytealg.IndexString"], named := ["unicode/utf8.first", "unicode/utf8.acceptRanges", "internal/bytealg.MaxLen"], apart := false, laid := [("unicode/utf8.acceptRanges", laid_unicode_utf8_acceptRanges), ("unicode/utf8.first", laid_unicode_utf8_first)], narrowed := true }
def CrownPutsUptoSaid : Prop := crownPutsUptoRow.holds Tryd.pinned (OpenSpec.upto crownPutsSpec)

/-- 'bondstorelaw07.SlotCrash', WHERE WHAT IT READS IS OF BULK AT MOST 1048576: true; the input reads as it did. -/
def slotCrashUptoRow : OpenClaim := { program := "ytidhimamegfdaaadoor", sum := "d10e953f2810ffcb63a72d0105b998ddf73739390488f35af601dbb929da2a58", func := "bondstore/bondstorelaw07.SlotCrash", spec := "slotCrash", inPlace := ["internal/abi.NoEscape", "internal/bytealg.MakeNoZero", "internal/bytealg.IndexByteString", "internal/bytealg.IndexString"], named := ["unicode/utf8.first", "unicode/utf8.acceptRanges", "internal/bytealg.MaxLen"], apart := false, laid := [("unicode/utf8.acceptRanges", laid_unicode_utf8_acceptRanges), ("unicode/utf8.first", laid_unicode_utf8_first)], narrowed := true }
def SlotCrashUptoSaid : Prop := slotCrashUptoRow.holds Tryd.pinned (OpenSpec.upto slotCrashSpec)

/-- 'bondstorelaw08.CrownCrash', WHERE WHAT IT READS IS OF BULK AT MOST 1048576: true; the input reads as it did. -/
def crownCrashUptoRow : OpenClaim := { program := "ytidhimamegfdaaadoor", sum := "d10e953f2810ffcb63a72d0105b998ddf73739390488f35af601dbb929da2a58", func := "bondstore/bondstorelaw08.CrownCrash", spec := "crownCrash", inPlace := ["internal/abi.NoEscape", "internal/bytealg.MakeNoZero", "internal/bytealg.IndexByteString", "internal/bytealg.IndexString"], named := ["unicode/utf8.first", "unicode/utf8.acceptRanges", "internal/bytealg.MaxLen"], apart := false, laid := [("unicode/utf8.acceptRanges", laid_unicode_utf8_acceptRanges), ("unicode/utf8.first", laid_unicode_utf8_first)], narrowed := true }
def CrownCrashUptoSaid : Prop := crownCrashUptoRow.holds Tryd.pinned (OpenSpec.upto crownCrashSpec)

/-- 'bondstorelaw06.JournalRoom', WHERE WHAT IT READS IS OF BULK AT MOST 1048576: true; the input reads as it did. -/
def journalRoomUptoRow : OpenClaim := { program := "ytidhimamegfdaaadoor", sum := "d10e953f2810ffcb63a72d0105b998ddf73739390488f35af601dbb929da2a58", func := "bondstore/bondstorelaw06.JournalRoom", spec := "journalRoom", inPlace := ["internal/abi.NoEscape", "internal/bytealg.MakeNoZero", "internal/bytealg.IndexByteString", "internal/bytealg.IndexString"], named := ["unicode/utf8.first", "unicode/utf8.acceptRanges", "internal/bytealg.MaxLen"], apart := false, laid := [("unicode/utf8.acceptRanges", laid_unicode_utf8_acceptRanges), ("unicode/utf8.first", laid_unicode_utf8_first)], narrowed := true }
def JournalRoomUptoSaid : Prop := journalRoomUptoRow.holds Tryd.pinned (OpenSpec.upto journalRoomSpec)

/-- 'bondstorelaw06.JournalRaw', WHERE WHAT IT READS IS OF BULK AT MOST 1048576: true; the input reads as it did. -/
def journalRawUptoRow : OpenClaim := { program := "ytidhimamegfdaaadoor", sum := "d10e953f2810ffcb63a72d0105b998ddf73739390488f35af601dbb929da2a58", func := "bondstore/bondstorelaw06.JournalRaw", spec := "journalRaw", inPlace := ["internal/abi.NoEscape", "internal/bytealg.MakeNoZero", "internal/bytealg.IndexByteString", "internal/bytealg.IndexString"], named := ["unicode/utf8.first", "unicode/utf8.acceptRanges", "internal/bytealg.MaxLen"], apart := false, laid := [("unicode/utf8.acceptRanges", laid_unicode_utf8_acceptRanges), ("unicode/utf8.first", laid_unicode_utf8_first)], narrowed := true }
def JournalRawUptoSaid : Prop := journalRawUptoRow.holds Tryd.pinned (OpenSpec.upto journalRawSpec)

/-- 'bondstorelaw06.JournalFlying', WHERE WHAT IT READS IS OF BULK AT MOST 1048576: true; the input reads as it did. -/
def journalFlyingUptoRow : OpenClaim := { program := "ytidhimamegfdaaadoor", sum := "d10e953f2810ffcb63a72d0105b998ddf73739390488f35af601dbb929da2a58", func := "bondstore/bondstorelaw06.JournalFlying", spec := "journalFlying", inPlace := ["internal/abi.NoEscape", "internal/bytealg.MakeNoZero", "internal/bytealg.IndexByteString", "internal/bytealg.IndexString"], named := ["unicode/utf8.first", "unicode/utf8.acceptRanges", "internal/bytealg.MaxLen"], apart := false, laid := [("unicode/utf8.acceptRanges", laid_unicode_utf8_acceptRanges), ("unicode/utf8.first", laid_unicode_utf8_first)], narrowed := true }
def JournalFlyingUptoSaid : Prop := journalFlyingUptoRow.holds Tryd.pinned (OpenSpec.upto journalFlyingSpec)

/-- 'bondstorelaw06.JournalRestarts', WHERE WHAT IT READS IS OF BULK AT MOST 1048576: true; the input reads as it did. -/
def journalRestartsUptoRow : OpenClaim := { program := "ytidhimamegfdaaadoor", sum := "d10e953f2810ffcb63a72d0105b998ddf73739390488f35af601dbb929da2a58", func := "bondstore/bondstorelaw06.JournalRestarts", spec := "journalRestarts", inPlace := ["internal/abi.NoEscape", "internal/bytealg.MakeNoZero", "internal/bytealg.IndexByteString", "internal/bytealg.IndexString"], named := ["unicode/utf8.first", "unicode/utf8.acceptRanges", "internal/bytealg.MaxLen"], apart := false, laid := [("unicode/utf8.acceptRanges", laid_unicode_utf8_acceptRanges), ("unicode/utf8.first", laid_unicode_utf8_first)], narrowed := true }
def JournalRestartsUptoSaid : Prop := journalRestartsUptoRow.holds Tryd.pinned (OpenSpec.upto journalRestartsSpec)

/-- 'bondstorelaw06.JournalKeeps', WHERE WHAT IT READS IS OF BULK AT MOST 1048576: true; the input reads as it did. -/
def journalKeepsUptoRow : OpenClaim := { program := "ytidhimamegfdaaadoor", sum := "d10e953f2810ffcb63a72d0105b998ddf73739390488f35af601dbb929da2a58", func := "bondstore/bondstorelaw06.JournalKeeps", spec := "journalKeeps", inPlace := ["internal/abi.NoEscape", "internal/bytealg.MakeNoZero", "internal/bytealg.IndexByteString", "internal/bytealg.IndexString"], named := ["unicode/utf8.first", "unicode/utf8.acceptRanges", "internal/bytealg.MaxLen"], apart := false, laid := [("unicode/utf8.acceptRanges", laid_unicode_utf8_acceptRanges), ("unicode/utf8.first", laid_unicode_utf8_first)], narrowed := true }
def JournalKeepsUptoSaid : Prop := journalKeepsUptoRow.holds Tryd.pinned (OpenSpec.upto journalKeepsSpec)

end Rows
end Go.Proofs.YtidhimamegfdaaaDoor
