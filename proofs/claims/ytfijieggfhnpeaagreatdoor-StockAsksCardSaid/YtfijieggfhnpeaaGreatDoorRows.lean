/-
  NARROWER THAN 'FOR EVERY INPUT', by the rows' own cells (each row's printed sentence says how): StockReads: laid · StockOpens: laid · StockAsks: laid · StockDoes: laid · StockEven: laid.
  DERIVED. THE GIVEN ROWS OF THIS SEAT. 5 by the template 'for every input the law returns true; each argument reads behind the call as it read before'; 0 by the template 'total and deterministic' (their statements: YtfijieggfhnpeaaGreatDoorTotals.lean).
  GIVEN WITH THE SEED: the statements are not yours to turn. If you find one false, say at which input.
  Laid BY PROGRAM, IN A SANDBOX (cutbox-rows.mjs): the forced cells as the released guide's own fill.sh prints them over the translation 752de8ac4f572ffc… (all of the seat's roots in one cut). By AI agents, Wed Nov 11 2026. No macro, syntax, notation, axiom, sorry.
-/
import Derived.Test.YtfijieggfhnpeaaGreatDoorChecked
import GoSem.PinnedTables
import GoSem.Claim
import GoSem.ClaimJoined
import GoSem.ClaimMapViews
import Derived.JoinedTies
import Derived.KernelRfl
namespace Go.Proofs.YtfijieggfhnpeaaGreatDoor
/- THE CELL 'sum', in the pinned program and in every row, IS THE sha256 OF THE DUMP (.gsa) THAT YtfijieggfhnpeaaGreatDoorProg.lean LOADS. Nothing in Lean hashes anything: it is a label: what it is worth is what the hold of that sum in a sandbox is worth. -/
noncomputable def Tryz.pinned : Pinned := { name := "ytfijieggfhnpeaagreatdoor", sum := "752de8ac4f572ffc578a28576fccf3f848d5282a8e2f90964f1da958de8c41b4", checked := Tryz.checked }
namespace Rows
def none {H : Type} : Left H := { results := [], args := [] }

/- WHAT THE LISTED PACKAGE-LEVEL VARIABLES READ AS WHEN THE CALL BEGINS. Each datum BY PROGRAM (the guide's laid-datum.mjs) off the statement by which the dump's own 'gosem.cut.vars' lays the variable. In a bare row this is a premise. The card (YtfijieggfhnpeaaGreatDoorCards.lean) ties it to the program's text. -/
def laid_unicode_utf8_acceptRanges {H : Type} : DataW H := .agg [.agg [.lit (.int .u8 128), .lit (.int .u8 191)], .agg [.lit (.int .u8 160), .lit (.int .u8 191)], .agg [.lit (.int .u8 128), .lit (.int .u8 159)], .agg [.lit (.int .u8 144), .lit (.int .u8 191)], .agg [.lit (.int .u8 128), .lit (.int .u8 143)], .agg [.lit (.int .u8 0), .lit (.int .u8 0)], .agg [.lit (.int .u8 0), .lit (.int .u8 0)], .agg [.lit (.int .u8 0), .lit (.int .u8 0)], .agg [.lit (.int .u8 0), .lit (.int .u8 0)], .agg [.lit (.int .u8 0), .lit (.int .u8 0)], .agg [.lit (.int .u8 0), .lit (.int .u8 0)], .agg [.lit (.int .u8 0), .lit (.int .u8 0)], .agg [.lit (.int .u8 0), .lit (.int .u8 0)], .agg [.lit (.int .u8 0), .lit (.int .u8 0)], .agg [.lit (.int .u8 0), .lit (.int .u8 0)], .agg [.lit (.int .u8 0), .lit (.int .u8 0)]]
def laid_bondstore_wide_Most {H : Type} : DataW H := .agg [.lit (.int .u64 18446744073709551615), .lit (.int .u64 18446744073709551615)]
def laid_bondstore_hold_told {H : Type} : DataW H := .agg [.lit (.int .i64 0), .lit (.int .i64 0), .lit (.int .i64 27), .lit (.int .i64 28), .lit (.int .i64 29)]
/-- One of Go's own tables, pinned by name: the form's constant. -/
def laid_unicode_utf8_first : DataW Unit := Go.Pinned.utf8First

/-- 'bondstorelaw27.StockReads': WHATEVER THE INPUT: true; the input reads as it did. -/
def stockReadsSpec : ChangeSpec := { name := "stockReads", fn := fun _ => fun
  | [d] => { results := [.lit (.bool true)], args := [d] }
  | _ => none }
def stockReadsRow : OpenClaim := { program := "ytfijieggfhnpeaagreatdoor", sum := "752de8ac4f572ffc578a28576fccf3f848d5282a8e2f90964f1da958de8c41b4", func := "bondstore/bondstorelaw27.StockReads", spec := "stockReads", inPlace := ["internal/abi.NoEscape", "internal/bytealg.MakeNoZero", "internal/bytealg.IndexByteString", "internal/bytealg.IndexString", "math/bits.Add64", "math/bits.Sub64"], unfollowed := true, recurses := true, named := ["unicode/utf8.first", "unicode/utf8.acceptRanges", "bondstore/wide.Most", "bondstore/hold.told", "internal/bytealg.MaxLen"], apart := false, laid := [("unicode/utf8.acceptRanges", laid_unicode_utf8_acceptRanges), ("bondstore/wide.Most", laid_bondstore_wide_Most), ("bondstore/hold.told", laid_bondstore_hold_told), ("unicode/utf8.first", laid_unicode_utf8_first)] }
def StockReadsSaid : Prop := stockReadsRow.holds Tryz.pinned (OpenSpec.ofChange stockReadsSpec)

/-- ITS FALSE NEIGHBOUR: 'it returns false'. Refute it at one input. -/
def stockReadsWrong : ChangeSpec := { name := "stockReads", fn := fun _ => fun
  | [d] => { results := [.lit (.bool false)], args := [d] }
  | _ => none }
def StockReadsWrongFalsely : Prop := stockReadsRow.holds Tryz.pinned (OpenSpec.ofChange stockReadsWrong)

/-- 'bondstorelaw27.StockOpens': WHATEVER THE INPUT: true; the input reads as it did. -/
def stockOpensSpec : ChangeSpec := { name := "stockOpens", fn := fun _ => fun
  | [d1, d2, d3] => { results := [.lit (.bool true)], args := [d1, d2, d3] }
  | _ => none }
def stockOpensRow : OpenClaim := { program := "ytfijieggfhnpeaagreatdoor", sum := "752de8ac4f572ffc578a28576fccf3f848d5282a8e2f90964f1da958de8c41b4", func := "bondstore/bondstorelaw27.StockOpens", spec := "stockOpens", inPlace := ["internal/abi.NoEscape", "internal/bytealg.MakeNoZero", "internal/bytealg.IndexByteString", "internal/bytealg.IndexString", "math/bits.Add64", "math/bits.Sub64"], unfollowed := true, recurses := true, named := ["unicode/utf8.first", "unicode/utf8.acceptRanges", "bondstore/wide.Most", "bondstore/hold.told", "internal/bytealg.MaxLen"], apart := false, laid := [("unicode/utf8.acceptRanges", laid_unicode_utf8_acceptRanges), ("bondstore/wide.Most", laid_bondstore_wide_Most), ("bondstore/hold.told", laid_bondstore_hold_told), ("unicode/utf8.first", laid_unicode_utf8_first)] }
def StockOpensSaid : Prop := stockOpensRow.holds Tryz.pinned (OpenSpec.ofChange stockOpensSpec)

/-- ITS FALSE NEIGHBOUR: 'it returns false'. Refute it at one input. -/
def stockOpensWrong : ChangeSpec := { name := "stockOpens", fn := fun _ => fun
  | [d1, d2, d3] => { results := [.lit (.bool false)], args := [d1, d2, d3] }
  | _ => none }
def StockOpensWrongFalsely : Prop := stockOpensRow.holds Tryz.pinned (OpenSpec.ofChange stockOpensWrong)

/-- 'bondstorelaw27.StockAsks': WHATEVER THE INPUT: true; the input reads as it did. -/
def stockAsksSpec : ChangeSpec := { name := "stockAsks", fn := fun _ => fun
  | [d1, d2, d3, d4, d5] => { results := [.lit (.bool true)], args := [d1, d2, d3, d4, d5] }
  | _ => none }
def stockAsksRow : OpenClaim := { program := "ytfijieggfhnpeaagreatdoor", sum := "752de8ac4f572ffc578a28576fccf3f848d5282a8e2f90964f1da958de8c41b4", func := "bondstore/bondstorelaw27.StockAsks", spec := "stockAsks", inPlace := ["internal/abi.NoEscape", "internal/bytealg.MakeNoZero", "internal/bytealg.IndexByteString", "internal/bytealg.IndexString", "math/bits.Add64", "math/bits.Sub64"], unfollowed := true, recurses := true, named := ["unicode/utf8.first", "unicode/utf8.acceptRanges", "bondstore/wide.Most", "bondstore/hold.told", "internal/bytealg.MaxLen"], apart := false, laid := [("unicode/utf8.acceptRanges", laid_unicode_utf8_acceptRanges), ("bondstore/wide.Most", laid_bondstore_wide_Most), ("bondstore/hold.told", laid_bondstore_hold_told), ("unicode/utf8.first", laid_unicode_utf8_first)] }
def StockAsksSaid : Prop := stockAsksRow.holds Tryz.pinned (OpenSpec.ofChange stockAsksSpec)

/-- ITS FALSE NEIGHBOUR: 'it returns false'. Refute it at one input. -/
def stockAsksWrong : ChangeSpec := { name := "stockAsks", fn := fun _ => fun
  | [d1, d2, d3, d4, d5] => { results := [.lit (.bool false)], args := [d1, d2, d3, d4, d5] }
  | _ => none }
def StockAsksWrongFalsely : Prop := stockAsksRow.holds Tryz.pinned (OpenSpec.ofChange stockAsksWrong)

/-- 'bondstorelaw27.StockDoes': WHATEVER THE INPUT: true; the input reads as it did. -/
def stockDoesSpec : ChangeSpec := { name := "stockDoes", fn := fun _ => fun
  | [d] => { results := [.lit (.bool true)], args := [d] }
  | _ => none }
def stockDoesRow : OpenClaim := { program := "ytfijieggfhnpeaagreatdoor", sum := "752de8ac4f572ffc578a28576fccf3f848d5282a8e2f90964f1da958de8c41b4", func := "bondstore/bondstorelaw27.StockDoes", spec := "stockDoes", inPlace := ["internal/abi.NoEscape", "internal/bytealg.MakeNoZero", "internal/bytealg.IndexByteString", "internal/bytealg.IndexString", "math/bits.Add64", "math/bits.Sub64"], unfollowed := true, recurses := true, named := ["unicode/utf8.first", "unicode/utf8.acceptRanges", "bondstore/wide.Most", "bondstore/hold.told", "internal/bytealg.MaxLen"], apart := false, laid := [("unicode/utf8.acceptRanges", laid_unicode_utf8_acceptRanges), ("bondstore/wide.Most", laid_bondstore_wide_Most), ("bondstore/hold.told", laid_bondstore_hold_told), ("unicode/utf8.first", laid_unicode_utf8_first)] }
def StockDoesSaid : Prop := stockDoesRow.holds Tryz.pinned (OpenSpec.ofChange stockDoesSpec)

/-- ITS FALSE NEIGHBOUR: 'it returns false'. Refute it at one input. -/
def stockDoesWrong : ChangeSpec := { name := "stockDoes", fn := fun _ => fun
  | [d] => { results := [.lit (.bool false)], args := [d] }
  | _ => none }
def StockDoesWrongFalsely : Prop := stockDoesRow.holds Tryz.pinned (OpenSpec.ofChange stockDoesWrong)

/-- 'bondstorelaw27.StockEven': WHATEVER THE INPUT: true; the input reads as it did. -/
def stockEvenSpec : ChangeSpec := { name := "stockEven", fn := fun _ => fun
  | [d] => { results := [.lit (.bool true)], args := [d] }
  | _ => none }
def stockEvenRow : OpenClaim := { program := "ytfijieggfhnpeaagreatdoor", sum := "752de8ac4f572ffc578a28576fccf3f848d5282a8e2f90964f1da958de8c41b4", func := "bondstore/bondstorelaw27.StockEven", spec := "stockEven", inPlace := ["internal/abi.NoEscape", "internal/bytealg.MakeNoZero", "internal/bytealg.IndexByteString", "internal/bytealg.IndexString", "math/bits.Add64", "math/bits.Sub64"], unfollowed := true, recurses := true, named := ["unicode/utf8.first", "unicode/utf8.acceptRanges", "bondstore/wide.Most", "bondstore/hold.told", "internal/bytealg.MaxLen"], apart := false, laid := [("unicode/utf8.acceptRanges", laid_unicode_utf8_acceptRanges), ("bondstore/wide.Most", laid_bondstore_wide_Most), ("bondstore/hold.told", laid_bondstore_hold_told), ("unicode/utf8.first", laid_unicode_utf8_first)] }
def StockEvenSaid : Prop := stockEvenRow.holds Tryz.pinned (OpenSpec.ofChange stockEvenSpec)

/-- ITS FALSE NEIGHBOUR: 'it returns false'. Refute it at one input. -/
def stockEvenWrong : ChangeSpec := { name := "stockEven", fn := fun _ => fun
  | [d] => { results := [.lit (.bool false)], args := [d] }
  | _ => none }
def StockEvenWrongFalsely : Prop := stockEvenRow.holds Tryz.pinned (OpenSpec.ofChange stockEvenWrong)

/- THE SECOND FORM. 'bulk': how many values and letters a reading holds, each counted each time it is reached (what is shared counts as often as it is met; a slice's spare places count too). A statement '..UptoSaid' is the law's where the arguments, and the package variables that the reading takes, are together of bulk at most 1048576: NARROWER than '..Said'. Prove '..Said' where nothing that the law and all that it calls make is longer than what came in: it says more and counts as full. Else prove '..UptoSaid'. A law counts once. -/
mutual
def uptoBulk {H : Type} : DataW H → Nat
  | .lit (.string bytes) => bytes.length + 1
  | .lit _ => 1
  | .nil => 1
  | .ptr d => uptoBulk d + 1
  | .slice elems spare => uptoBulkAll elems + uptoBulkAll spare + 1
  | .agg parts => uptoBulkAll parts + 1
  | .iface _ d => uptoBulk d + 1
  | .map entries => uptoBulkEntries entries + 1
  | .held _ => 1
def uptoBulkAll {H : Type} : List (DataW H) → Nat
  | [] => 0
  | d :: r => uptoBulk d + uptoBulkAll r
def uptoBulkEntries {H : Type} : List (Lit × DataW H) → Nat
  | [] => 0
  | x :: r => uptoBulkEntry x + uptoBulkEntries r
def uptoBulkEntry {H : Type} : Lit × DataW H → Nat
  | (.string bytes, d) => bytes.length + uptoBulk d + 1
  | (_, d) => uptoBulk d + 1
 end
def uptoSmall : (H : Type) → List (DataW H) → Bool := fun _ ds => decide (uptoBulkAll ds ≤ 1048576)
def OpenSpec.upto (s : _root_.Go.ChangeSpec) : _root_.Go.OpenSpec := { _root_.Go.OpenSpec.ofChange s with cond := some uptoSmall }

/-- 'bondstorelaw27.StockReads', WHERE WHAT IT READS IS OF BULK AT MOST 1048576: true; the input reads as it did. -/
def stockReadsUptoRow : OpenClaim := { program := "ytfijieggfhnpeaagreatdoor", sum := "752de8ac4f572ffc578a28576fccf3f848d5282a8e2f90964f1da958de8c41b4", func := "bondstore/bondstorelaw27.StockReads", spec := "stockReads", inPlace := ["internal/abi.NoEscape", "internal/bytealg.MakeNoZero", "internal/bytealg.IndexByteString", "internal/bytealg.IndexString", "math/bits.Add64", "math/bits.Sub64"], unfollowed := true, recurses := true, named := ["unicode/utf8.first", "unicode/utf8.acceptRanges", "bondstore/wide.Most", "bondstore/hold.told", "internal/bytealg.MaxLen"], apart := false, laid := [("unicode/utf8.acceptRanges", laid_unicode_utf8_acceptRanges), ("bondstore/wide.Most", laid_bondstore_wide_Most), ("bondstore/hold.told", laid_bondstore_hold_told), ("unicode/utf8.first", laid_unicode_utf8_first)], narrowed := true }
def StockReadsUptoSaid : Prop := stockReadsUptoRow.holds Tryz.pinned (OpenSpec.upto stockReadsSpec)

/-- 'bondstorelaw27.StockOpens', WHERE WHAT IT READS IS OF BULK AT MOST 1048576: true; the input reads as it did. -/
def stockOpensUptoRow : OpenClaim := { program := "ytfijieggfhnpeaagreatdoor", sum := "752de8ac4f572ffc578a28576fccf3f848d5282a8e2f90964f1da958de8c41b4", func := "bondstore/bondstorelaw27.StockOpens", spec := "stockOpens", inPlace := ["internal/abi.NoEscape", "internal/bytealg.MakeNoZero", "internal/bytealg.IndexByteString", "internal/bytealg.IndexString", "math/bits.Add64", "math/bits.Sub64"], unfollowed := true, recurses := true, named := ["unicode/utf8.first", "unicode/utf8.acceptRanges", "bondstore/wide.Most", "bondstore/hold.told", "internal/bytealg.MaxLen"], apart := false, laid := [("unicode/utf8.acceptRanges", laid_unicode_utf8_acceptRanges), ("bondstore/wide.Most", laid_bondstore_wide_Most), ("bondstore/hold.told", laid_bondstore_hold_told), ("unicode/utf8.first", laid_unicode_utf8_first)], narrowed := true }
def StockOpensUptoSaid : Prop := stockOpensUptoRow.holds Tryz.pinned (OpenSpec.upto stockOpensSpec)

/-- 'bondstorelaw27.StockAsks', WHERE WHAT IT READS IS OF BULK AT MOST 1048576: true; the input reads as it did. -/
def stockAsksUptoRow : OpenClaim := { program := "ytfijieggfhnpeaagreatdoor", sum := "752de8ac4f572ffc578a28576fccf3f848d5282a8e2f90964f1da958de8c41b4", func := "bondstore/bondstorelaw27.StockAsks", spec := "stockAsks", inPlace := ["internal/abi.NoEscape", "internal/bytealg.MakeNoZero", "internal/bytealg.IndexByteString", "internal/bytealg.IndexString", "math/bits.Add64", "math/bits.Sub64"], unfollowed := true, recurses := true, named := ["unicode/utf8.first", "unicode/utf8.acceptRanges", "bondstore/wide.Most", "bondstore/hold.told", "internal/bytealg.MaxLen"], apart := false, laid := [("unicode/utf8.acceptRanges", laid_unicode_utf8_acceptRanges), ("bondstore/wide.Most", laid_bondstore_wide_Most), ("bondstore/hold.told", laid_bondstore_hold_told), ("unicode/utf8.first", laid_unicode_utf8_first)], narrowed := true }
def StockAsksUptoSaid : Prop := stockAsksUptoRow.holds Tryz.pinned (OpenSpec.upto stockAsksSpec)

/-- 'bondstorelaw27.StockDoes', WHERE WHAT IT READS IS OF BULK AT MOST 1048576: true; the input reads as it did. -/
def stockDoesUptoRow : OpenClaim := { program := "ytfijieggfhnpeaagreatdoor", sum := "752de8ac4f572ffc578a28576fccf3f848d5282a8e2f90964f1da958de8c41b4", func := "bondstore/bondstorelaw27.StockDoes", spec := "stockDoes", inPlace := ["internal/abi.NoEscape", "internal/bytealg.MakeNoZero", "internal/bytealg.IndexByteString", "internal/bytealg.IndexString", "math/bits.Add64", "math/bits.Sub64"], unfollowed := true, recurses := true, named := ["unicode/utf8.first", "unicode/utf8.acceptRanges", "bondstore/wide.Most", "bondstore/hold.told", "internal/bytealg.MaxLen"], apart := false, laid := [("unicode/utf8.acceptRanges", laid_unicode_utf8_acceptRanges), ("bondstore/wide.Most", laid_bondstore_wide_Most), ("bondstore/hold.told", laid_bondstore_hold_told), ("unicode/utf8.first", laid_unicode_utf8_first)], narrowed := true }
def StockDoesUptoSaid : Prop := stockDoesUptoRow.holds Tryz.pinned (OpenSpec.upto stockDoesSpec)

/-- 'bondstorelaw27.StockEven', WHERE WHAT IT READS IS OF BULK AT MOST 1048576: true; the input reads as it did. -/
def stockEvenUptoRow : OpenClaim := { program := "ytfijieggfhnpeaagreatdoor", sum := "752de8ac4f572ffc578a28576fccf3f848d5282a8e2f90964f1da958de8c41b4", func := "bondstore/bondstorelaw27.StockEven", spec := "stockEven", inPlace := ["internal/abi.NoEscape", "internal/bytealg.MakeNoZero", "internal/bytealg.IndexByteString", "internal/bytealg.IndexString", "math/bits.Add64", "math/bits.Sub64"], unfollowed := true, recurses := true, named := ["unicode/utf8.first", "unicode/utf8.acceptRanges", "bondstore/wide.Most", "bondstore/hold.told", "internal/bytealg.MaxLen"], apart := false, laid := [("unicode/utf8.acceptRanges", laid_unicode_utf8_acceptRanges), ("bondstore/wide.Most", laid_bondstore_wide_Most), ("bondstore/hold.told", laid_bondstore_hold_told), ("unicode/utf8.first", laid_unicode_utf8_first)], narrowed := true }
def StockEvenUptoSaid : Prop := stockEvenUptoRow.holds Tryz.pinned (OpenSpec.upto stockEvenSpec)

end Rows
end Go.Proofs.YtfijieggfhnpeaaGreatDoor
