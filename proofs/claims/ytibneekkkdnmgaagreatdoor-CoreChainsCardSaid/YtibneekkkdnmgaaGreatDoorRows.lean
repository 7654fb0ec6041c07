/-
  NARROWER THAN 'FOR EVERY INPUT', by the rows' own cells (each row's printed sentence says how): CoreServes: laid · CoreCrash: laid · CoreSums: laid · CoreEnds: laid · CoreSaves: laid · CoreStamps: laid · CoreLimits: laid · CoreChains: laid · CoreAgain: laid · CoreDisk: laid · CoreReads: laid.
  DERIVED. THE GIVEN ROWS OF THIS SEAT. 11 by the template 'for every input the law returns true; each argument reads behind the call as it read before'; 0 by the template 'total and deterministic' (their statements: YtibneekkkdnmgaaGreatDoorTotals.lean).
  GIVEN WITH THE SEED: the statements are not yours to turn. If you find one false, say at which input.
  Laid BY PROGRAM, IN A SANDBOX (cutbox-rows.mjs): the forced cells as the released guide's own fill.sh prints them over the translation 2dd087db23b84cf2… (all of the seat's roots in one cut). By AI agents, Wed Nov 11 2026. No macro, syntax, notation, axiom, sorry.
-/
import Derived.Test.YtibneekkkdnmgaaGreatDoorChecked
import GoSem.PinnedTables
import GoSem.Claim
import GoSem.ClaimJoined
import GoSem.ClaimMapViews
import Derived.JoinedTies
import Derived.KernelRfl
namespace Go.Proofs.YtibneekkkdnmgaaGreatDoor
/- THE CELL 'sum', in the pinned program and in every row, IS THE sha256 OF THE DUMP (.gsa) THAT YtibneekkkdnmgaaGreatDoorProg.lean LOADS. Nothing in Lean hashes anything: it is a label: what it is worth is what the hold of that sum in a sandbox is worth. -/
noncomputable def Tryz.pinned : Pinned := { name := "ytibneekkkdnmgaagreatdoor", sum := "2dd087db23b84cf268c0aeb02c5639bde23938b66e6bf6eed66062905ed71ba5", checked := Tryz.checked }
namespace Rows
def none {H : Type} : Left H := { results := [], args := [] }

/- WHAT THE LISTED PACKAGE-LEVEL VARIABLES READ AS WHEN THE CALL BEGINS. Each datum BY PROGRAM (the guide's laid-datum.mjs) off the statement by which the dump's own 'gosem.cut.vars' lays the variable. In a bare row this is a premise. The card (YtibneekkkdnmgaaGreatDoorCards.lean) ties it to the program's text. -/
def laid_unicode_utf8_acceptRanges {H : Type} : DataW H := .agg [.agg [.lit (.int .u8 128), .lit (.int .u8 191)], .agg [.lit (.int .u8 160), .lit (.int .u8 191)], .agg [.lit (.int .u8 128), .lit (.int .u8 159)], .agg [.lit (.int .u8 144), .lit (.int .u8 191)], .agg [.lit (.int .u8 128), .lit (.int .u8 143)], .agg [.lit (.int .u8 0), .lit (.int .u8 0)], .agg [.lit (.int .u8 0), .lit (.int .u8 0)], .agg [.lit (.int .u8 0), .lit (.int .u8 0)], .agg [.lit (.int .u8 0), .lit (.int .u8 0)], .agg [.lit (.int .u8 0), .lit (.int .u8 0)], .agg [.lit (.int .u8 0), .lit (.int .u8 0)], .agg [.lit (.int .u8 0), .lit (.int .u8 0)], .agg [.lit (.int .u8 0), .lit (.int .u8 0)], .agg [.lit (.int .u8 0), .lit (.int .u8 0)], .agg [.lit (.int .u8 0), .lit (.int .u8 0)], .agg [.lit (.int .u8 0), .lit (.int .u8 0)]]
def laid_bondstore_wide_Most {H : Type} : DataW H := .agg [.lit (.int .u64 18446744073709551615), .lit (.int .u64 18446744073709551615)]
def laid_bondstore_hold_told {H : Type} : DataW H := .agg [.lit (.int .i64 0), .lit (.int .i64 0), .lit (.int .i64 27), .lit (.int .i64 28), .lit (.int .i64 29)]
/-- One of Go's own tables, pinned by name: the form's constant. -/
def laid_unicode_utf8_first : DataW Unit := Go.Pinned.utf8First

/-- 'bondstoretop.CoreServes': WHATEVER THE INPUT: true; the input reads as it did. -/
def coreServesSpec : ChangeSpec := { name := "coreServes", fn := fun _ => fun
  | [d] => { results := [.lit (.bool true)], args := [d] }
  | _ => none }
def coreServesRow : OpenClaim := { program := "ytibneekkkdnmgaagreatdoor", sum := "2dd087db23b84cf268c0aeb02c5639bde23938b66e6bf6eed66062905ed71ba5", func := "bondstore/bondstoretop.CoreServes", spec := "coreServes", inPlace := ["internal/abi.NoEscape", "internal/bytealg.MakeNoZero", "internal/bytealg.IndexByteString", "internal/bytealg.IndexString", "math/bits.Add64", "math/bits.Sub64"], unfollowed := true, recurses := true, named := ["unicode/utf8.first", "unicode/utf8.acceptRanges", "bondstore/wide.Most", "bondstore/hold.told", "internal/bytealg.MaxLen"], plainKeys := false, apart := false, laid := [("unicode/utf8.acceptRanges", laid_unicode_utf8_acceptRanges), ("bondstore/wide.Most", laid_bondstore_wide_Most), ("bondstore/hold.told", laid_bondstore_hold_told), ("unicode/utf8.first", laid_unicode_utf8_first)] }
def CoreServesSaid : Prop := coreServesRow.holds Tryz.pinned (OpenSpec.ofChange coreServesSpec)

/-- ITS FALSE NEIGHBOUR: 'it returns false'. Refute it at one input. -/
def coreServesWrong : ChangeSpec := { name := "coreServes", fn := fun _ => fun
  | [d] => { results := [.lit (.bool false)], args := [d] }
  | _ => none }
def CoreServesWrongFalsely : Prop := coreServesRow.holds Tryz.pinned (OpenSpec.ofChange coreServesWrong)

/-- 'bondstoretop.CoreCrash': WHATEVER THE INPUT: true; the input reads as it did. -/
def coreCrashSpec : ChangeSpec := { name := "coreCrash", fn := fun _ => fun
  | [d] => { results := [.lit (.bool true)], args := [d] }
  | _ => none }
def coreCrashRow : OpenClaim := { program := "ytibneekkkdnmgaagreatdoor", sum := "2dd087db23b84cf268c0aeb02c5639bde23938b66e6bf6eed66062905ed71ba5", func := "bondstore/bondstoretop.CoreCrash", spec := "coreCrash", inPlace := ["internal/abi.NoEscape", "internal/bytealg.MakeNoZero", "internal/bytealg.IndexByteString", "internal/bytealg.IndexString", "math/bits.Add64", "math/bits.Sub64"], unfollowed := true, recurses := true, named := ["unicode/utf8.first", "unicode/utf8.acceptRanges", "bondstore/wide.Most", "bondstore/hold.told", "internal/bytealg.MaxLen"], plainKeys := false, apart := false, laid := [("unicode/utf8.acceptRanges", laid_unicode_utf8_acceptRanges), ("bondstore/wide.Most", laid_bondstore_wide_Most), ("bondstore/hold.told", laid_bondstore_hold_told), ("unicode/utf8.first", laid_unicode_utf8_first)] }
def CoreCrashSaid : Prop := coreCrashRow.holds Tryz.pinned (OpenSpec.ofChange coreCrashSpec)

/-- ITS FALSE NEIGHBOUR: 'it returns false'. Refute it at one input. -/
def coreCrashWrong : ChangeSpec := { name := "coreCrash", fn := fun _ => fun
  | [d] => { results := [.lit (.bool false)], args := [d] }
  | _ => none }
def CoreCrashWrongFalsely : Prop := coreCrashRow.holds Tryz.pinned (OpenSpec.ofChange coreCrashWrong)

/-- 'bondstoretop.CoreSums': WHATEVER THE INPUT: true; the input reads as it did. -/
def coreSumsSpec : ChangeSpec := { name := "coreSums", fn := fun _ => fun
  | [d] => { results := [.lit (.bool true)], args := [d] }
  | _ => none }
def coreSumsRow : OpenClaim := { program := "ytibneekkkdnmgaagreatdoor", sum := "2dd087db23b84cf268c0aeb02c5639bde23938b66e6bf6eed66062905ed71ba5", func := "bondstore/bondstoretop.CoreSums", spec := "coreSums", inPlace := ["internal/abi.NoEscape", "internal/bytealg.MakeNoZero", "internal/bytealg.IndexByteString", "internal/bytealg.IndexString", "math/bits.Add64", "math/bits.Sub64"], unfollowed := true, recurses := true, named := ["unicode/utf8.first", "unicode/utf8.acceptRanges", "bondstore/wide.Most", "bondstore/hold.told", "internal/bytealg.MaxLen"], plainKeys := false, apart := false, laid := [("unicode/utf8.acceptRanges", laid_unicode_utf8_acceptRanges), ("bondstore/wide.Most", laid_bondstore_wide_Most), ("bondstore/hold.told", laid_bondstore_hold_told), ("unicode/utf8.first", laid_unicode_utf8_first)] }
def CoreSumsSaid : Prop := coreSumsRow.holds Tryz.pinned (OpenSpec.ofChange coreSumsSpec)

/-- ITS FALSE NEIGHBOUR: 'it returns false'. Refute it at one input. -/
def coreSumsWrong : ChangeSpec := { name := "coreSums", fn := fun _ => fun
  | [d] => { results := [.lit (.bool false)], args := [d] }
  | _ => none }
def CoreSumsWrongFalsely : Prop := coreSumsRow.holds Tryz.pinned (OpenSpec.ofChange coreSumsWrong)

/-- 'bondstoretop.CoreEnds': WHATEVER THE INPUT: true; the input reads as it did. -/
def coreEndsSpec : ChangeSpec := { name := "coreEnds", fn := fun _ => fun
  | [d] => { results := [.lit (.bool true)], args := [d] }
  | _ => none }
def coreEndsRow : OpenClaim := { program := "ytibneekkkdnmgaagreatdoor", sum := "2dd087db23b84cf268c0aeb02c5639bde23938b66e6bf6eed66062905ed71ba5", func := "bondstore/bondstoretop.CoreEnds", spec := "coreEnds", inPlace := ["internal/abi.NoEscape", "internal/bytealg.MakeNoZero", "internal/bytealg.IndexByteString", "internal/bytealg.IndexString", "math/bits.Add64", "math/bits.Sub64"], unfollowed := true, recurses := true, named := ["unicode/utf8.first", "unicode/utf8.acceptRanges", "bondstore/wide.Most", "bondstore/hold.told", "internal/bytealg.MaxLen"], plainKeys := false, apart := false, laid := [("unicode/utf8.acceptRanges", laid_unicode_utf8_acceptRanges), ("bondstore/wide.Most", laid_bondstore_wide_Most), ("bondstore/hold.told", laid_bondstore_hold_told), ("unicode/utf8.first", laid_unicode_utf8_first)] }
def CoreEndsSaid : Prop := coreEndsRow.holds Tryz.pinned (OpenSpec.ofChange coreEndsSpec)

/-- ITS FALSE NEIGHBOUR: 'it returns false'. Refute it at one input. -/
def coreEndsWrong : ChangeSpec := { name := "coreEnds", fn := fun _ => fun
  | [d] => { results := [.lit (.bool false)], args := [d] }
  | _ => none }
def CoreEndsWrongFalsely : Prop := coreEndsRow.holds Tryz.pinned (OpenSpec.ofChange coreEndsWrong)

/-- 'bondstoretop.CoreSaves': WHATEVER THE INPUT: true; the input reads as it did. -/
def coreSavesSpec : ChangeSpec := { name := "coreSaves", fn := fun _ => fun
  | [d] => { results := [.lit (.bool true)], args := [d] }
  | _ => none }
def coreSavesRow : OpenClaim := { program := "ytibneekkkdnmgaagreatdoor", sum := "2dd087db23b84cf268c0aeb02c5639bde23938b66e6bf6eed66062905ed71ba5", func := "bondstore/bondstoretop.CoreSaves", spec := "coreSaves", inPlace := ["internal/abi.NoEscape", "internal/bytealg.MakeNoZero", "internal/bytealg.IndexByteString", "internal/bytealg.IndexString", "math/bits.Add64", "math/bits.Sub64"], unfollowed := true, recurses := true, named := ["unicode/utf8.first", "unicode/utf8.acceptRanges", "bondstore/wide.Most", "bondstore/hold.told", "internal/bytealg.MaxLen"], plainKeys := false, apart := false, laid := [("unicode/utf8.acceptRanges", laid_unicode_utf8_acceptRanges), ("bondstore/wide.Most", laid_bondstore_wide_Most), ("bondstore/hold.told", laid_bondstore_hold_told), ("unicode/utf8.first", laid_unicode_utf8_first)] }
def CoreSavesSaid : Prop := coreSavesRow.holds Tryz.pinned (OpenSpec.ofChange coreSavesSpec)

/-- ITS FALSE NEIGHBOUR: 'it returns false'. Refute it at one input. -/
def coreSavesWrong : ChangeSpec := { name := "coreSaves", fn := fun _ => fun
  | [d] => { results := [.lit (.bool false)], args := [d] }
  | _ => none }
def CoreSavesWrongFalsely : Prop := coreSavesRow.holds Tryz.pinned (OpenSpec.ofChange coreSavesWrong)

/-- 'bondstoretop.CoreStamps': WHATEVER THE INPUT: true; the input reads as it did. -/
def coreStampsSpec : ChangeSpec := { name := "coreStamps", fn := fun _ => fun
  | [d] => { results := [.lit (.bool true)], args := [d] }
  | _ => none }
def coreStampsRow : OpenClaim := { program := "ytibneekkkdnmgaagreatdoor", sum := "2dd087db23b84cf268c0aeb02c5639bde23938b66e6bf6eed66062905ed71ba5", func := "bondstore/bondstoretop.CoreStamps", spec := "coreStamps", inPlace := ["internal/abi.NoEscape", "internal/bytealg.MakeNoZero", "internal/bytealg.IndexByteString", "internal/bytealg.IndexString", "math/bits.Add64", "math/bits.Sub64"], unfollowed := true, recurses := true, named := ["unicode/utf8.first", "unicode/utf8.acceptRanges", "bondstore/wide.Most", "bondstore/hold.told", "internal/bytealg.MaxLen"], plainKeys := false, apart := false, laid := [("unicode/utf8.acceptRanges", laid_unicode_utf8_acceptRanges), ("bondstore/wide.Most", laid_bondstore_wide_Most), ("bondstore/hold.told", laid_bondstore_hold_told), ("unicode/utf8.first", laid_unicode_utf8_first)] }
def CoreStampsSaid : Prop := coreStampsRow.holds Tryz.pinned (OpenSpec.ofChange coreStampsSpec)

/-- ITS FALSE NEIGHBOUR: 'it returns false'. Refute it at one input. -/
def coreStampsWrong : ChangeSpec := { name := "coreStamps", fn := fun _ => fun
  | [d] => { results := [.lit (.bool false)], args := [d] }
  | _ => none }
def CoreStampsWrongFalsely : Prop := coreStampsRow.holds Tryz.pinned (OpenSpec.ofChange coreStampsWrong)

/-- 'bondstoretop.CoreLimits': WHATEVER THE INPUT: true; the input reads as it did. -/
def coreLimitsSpec : ChangeSpec := { name := "coreLimits", fn := fun _ => fun
  | [d] => { results := [.lit (.bool true)], args := [d] }
  | _ => none }
def coreLimitsRow : OpenClaim := { program := "ytibneekkkdnmgaagreatdoor", sum := "2dd087db23b84cf268c0aeb02c5639bde23938b66e6bf6eed66062905ed71ba5", func := "bondstore/bondstoretop.CoreLimits", spec := "coreLimits", inPlace := ["internal/abi.NoEscape", "internal/bytealg.MakeNoZero", "internal/bytealg.IndexByteString", "internal/bytealg.IndexString", "math/bits.Add64", "math/bits.Sub64"], unfollowed := true, recurses := true, named := ["unicode/utf8.first", "unicode/utf8.acceptRanges", "bondstore/wide.Most", "bondstore/hold.told", "internal/bytealg.MaxLen"], plainKeys := false, apart := false, laid := [("unicode/utf8.acceptRanges", laid_unicode_utf8_acceptRanges), ("bondstore/wide.Most", laid_bondstore_wide_Most), ("bondstore/hold.told", laid_bondstore_hold_told), ("unicode/utf8.first", laid_unicode_utf8_first)] }
def CoreLimitsSaid : Prop := coreLimitsRow.holds Tryz.pinned (OpenSpec.ofChange coreLimitsSpec)

/-- ITS FALSE NEIGHBOUR: 'it returns false'. Refute it at one input. -/
def coreLimitsWrong : ChangeSpec := { name := "coreLimits", fn := fun _ => fun
  | [d] => { results := [.lit (.bool false)], args := [d] }
  | _ => none }
def CoreLimitsWrongFalsely : Prop := coreLimitsRow.holds Tryz.pinned (OpenSpec.ofChange coreLimitsWrong)

/-- 'bondstoretop.CoreChains': WHATEVER THE INPUT: true; the input reads as it did. -/
def coreChainsSpec : ChangeSpec := { name := "coreChains", fn := fun _ => fun
  | [d] => { results := [.lit (.bool true)], args := [d] }
  | _ => none }
def coreChainsRow : OpenClaim := { program := "ytibneekkkdnmgaagreatdoor", sum := "2dd087db23b84cf268c0aeb02c5639bde23938b66e6bf6eed66062905ed71ba5", func := "bondstore/bondstoretop.CoreChains", spec := "coreChains", inPlace := ["internal/abi.NoEscape", "internal/bytealg.MakeNoZero", "internal/bytealg.IndexByteString", "internal/bytealg.IndexString", "math/bits.Add64", "math/bits.Sub64"], unfollowed := true, recurses := true, named := ["unicode/utf8.first", "unicode/utf8.acceptRanges", "bondstore/wide.Most", "bondstore/hold.told", "internal/bytealg.MaxLen"], plainKeys := false, apart := false, laid := [("unicode/utf8.acceptRanges", laid_unicode_utf8_acceptRanges), ("bondstore/wide.Most", laid_bondstore_wide_Most), ("bondstore/hold.told", laid_bondstore_hold_told), ("unicode/utf8.first", laid_unicode_utf8_first)] }
def CoreChainsSaid : Prop := coreChainsRow.holds Tryz.pinned (OpenSpec.ofChange coreChainsSpec)

/-- ITS FALSE NEIGHBOUR: 'it returns false'. Refute it at one input. -/
def coreChainsWrong : ChangeSpec := { name := "coreChains", fn := fun _ => fun
  | [d] => { results := [.lit (.bool false)], args := [d] }
  | _ => none }
def CoreChainsWrongFalsely : Prop := coreChainsRow.holds Tryz.pinned (OpenSpec.ofChange coreChainsWrong)

/-- 'bondstoretop.CoreAgain': WHATEVER THE INPUT: true; the input reads as it did. -/
def coreAgainSpec : ChangeSpec := { name := "coreAgain", fn := fun _ => fun
  | [d1, d2, d3] => { results := [.lit (.bool true)], args := [d1, d2, d3] }
  | _ => none }
def coreAgainRow : OpenClaim := { program := "ytibneekkkdnmgaagreatdoor", sum := "2dd087db23b84cf268c0aeb02c5639bde23938b66e6bf6eed66062905ed71ba5", func := "bondstore/bondstoretop.CoreAgain", spec := "coreAgain", inPlace := ["internal/abi.NoEscape", "internal/bytealg.MakeNoZero", "internal/bytealg.IndexByteString", "internal/bytealg.IndexString", "math/bits.Add64", "math/bits.Sub64"], unfollowed := true, recurses := true, named := ["unicode/utf8.first", "unicode/utf8.acceptRanges", "bondstore/wide.Most", "bondstore/hold.told", "internal/bytealg.MaxLen"], plainKeys := false, apart := false, laid := [("unicode/utf8.acceptRanges", laid_unicode_utf8_acceptRanges), ("bondstore/wide.Most", laid_bondstore_wide_Most), ("bondstore/hold.told", laid_bondstore_hold_told), ("unicode/utf8.first", laid_unicode_utf8_first)] }
def CoreAgainSaid : Prop := coreAgainRow.holds Tryz.pinned (OpenSpec.ofChange coreAgainSpec)

/-- ITS FALSE NEIGHBOUR: 'it returns false'. Refute it at one input. -/
def coreAgainWrong : ChangeSpec := { name := "coreAgain", fn := fun _ => fun
  | [d1, d2, d3] => { results := [.lit (.bool false)], args := [d1, d2, d3] }
  | _ => none }
def CoreAgainWrongFalsely : Prop := coreAgainRow.holds Tryz.pinned (OpenSpec.ofChange coreAgainWrong)

/-- 'bondstoretop.CoreDisk': WHATEVER THE INPUT: true; the input reads as it did. -/
def coreDiskSpec : ChangeSpec := { name := "coreDisk", fn := fun _ => fun
  | [d1, d2, d3, d4, d5, d6] => { results := [.lit (.bool true)], args := [d1, d2, d3, d4, d5, d6] }
  | _ => none }
def coreDiskRow : OpenClaim := { program := "ytibneekkkdnmgaagreatdoor", sum := "2dd087db23b84cf268c0aeb02c5639bde23938b66e6bf6eed66062905ed71ba5", func := "bondstore/bondstoretop.CoreDisk", spec := "coreDisk", inPlace := ["internal/abi.NoEscape", "internal/bytealg.MakeNoZero", "internal/bytealg.IndexByteString", "internal/bytealg.IndexString", "math/bits.Add64", "math/bits.Sub64"], unfollowed := true, recurses := true, named := ["unicode/utf8.first", "unicode/utf8.acceptRanges", "bondstore/wide.Most", "bondstore/hold.told", "internal/bytealg.MaxLen"], plainKeys := false, apart := false, laid := [("unicode/utf8.acceptRanges", laid_unicode_utf8_acceptRanges), ("bondstore/wide.Most", laid_bondstore_wide_Most), ("bondstore/hold.told", laid_bondstore_hold_told), ("unicode/utf8.first", laid_unicode_utf8_first)] }
def CoreDiskSaid : Prop := coreDiskRow.holds Tryz.pinned (OpenSpec.ofChange coreDiskSpec)

/-- ITS FALSE NEIGHBOUR: 'it returns false'. Refute it at one input. -/
def coreDiskWrong : ChangeSpec := { name := "coreDisk", fn := fun _ => fun
  | [d1, d2, d3, d4, d5, d6] => { results := [.lit (.bool false)], args := [d1, d2, d3, d4, d5, d6] }
  | _ => none }
def CoreDiskWrongFalsely : Prop := coreDiskRow.holds Tryz.pinned (OpenSpec.ofChange coreDiskWrong)

/-- 'bondstoretop.CoreReads': WHATEVER THE INPUT: true; the input reads as it did. -/
def coreReadsSpec : ChangeSpec := { name := "coreReads", fn := fun _ => fun
  | [d] => { results := [.lit (.bool true)], args := [d] }
  | _ => none }
def coreReadsRow : OpenClaim := { program := "ytibneekkkdnmgaagreatdoor", sum := "2dd087db23b84cf268c0aeb02c5639bde23938b66e6bf6eed66062905ed71ba5", func := "bondstore/bondstoretop.CoreReads", spec := "coreReads", inPlace := ["internal/abi.NoEscape", "internal/bytealg.MakeNoZero", "internal/bytealg.IndexByteString", "internal/bytealg.IndexString", "math/bits.Add64", "math/bits.Sub64"], unfollowed := true, recurses := true, named := ["unicode/utf8.first", "unicode/utf8.acceptRanges", "bondstore/wide.Most", "bondstore/hold.told", "internal/bytealg.MaxLen"], plainKeys := false, apart := false, laid := [("unicode/utf8.acceptRanges", laid_unicode_utf8_acceptRanges), ("bondstore/wide.Most", laid_bondstore_wide_Most), ("bondstore/hold.told", laid_bondstore_hold_told), ("unicode/utf8.first", laid_unicode_utf8_first)] }
def CoreReadsSaid : Prop := coreReadsRow.holds Tryz.pinned (OpenSpec.ofChange coreReadsSpec)

/-- ITS FALSE NEIGHBOUR: 'it returns false'. Refute it at one input. -/
def coreReadsWrong : ChangeSpec := { name := "coreReads", fn := fun _ => fun
  | [d] => { results := [.lit (.bool false)], args := [d] }
  | _ => none }
def CoreReadsWrongFalsely : Prop := coreReadsRow.holds Tryz.pinned (OpenSpec.ofChange coreReadsWrong)

/- THE SECOND FORM. 'bulk': how many values and letters a reading holds, each counted each time it is reached (what is shared counts as often as it is met; a slice's spare places count too). A statement '..UptoSaid' is the law's where the arguments, and the package variables that the reading takes, are together of bulk at most 1048576: NARROWER than '..Said'. Prove '..Said' where nothing that the law and all that it calls make is longer than what came in: it says more and counts as full. Else prove '..UptoSaid'. A law counts once. -/
mutual
def uptoBulk {H : Type} : DataW H → Nat
  | .lit (.string bytes) => bytes.length + 1
  | .lit _ => 1
  | .nil => 1
  | .ptr d => uptoBulk d + 1
  | .slice elems spare => uptoBulkAll elems + uptoBulkAll spare + 1
  | .agg parts => uptoBulkAll parts + 1
  | .iface _ d => uptoBulk d + 1
  | .map entries => uptoBulkEntries entries + 1
  | .held _ => 1
def uptoBulkAll {H : Type} : List (DataW H) → Nat
  | [] => 0
  | d :: r => uptoBulk d + uptoBulkAll r
def uptoBulkEntries {H : Type} : List (Lit × DataW H) → Nat
  | [] => 0
  | x :: r => uptoBulkEntry x + uptoBulkEntries r
def uptoBulkEntry {H : Type} : Lit × DataW H → Nat
  | (.string bytes, d) => bytes.length + uptoBulk d + 1
  | (_, d) => uptoBulk d + 1
 end
def uptoSmall : (H : Type) → List (DataW H) → Bool := fun _ ds => decide (uptoBulkAll ds ≤ 1048576)
def OpenSpec.upto (s : _root_.Go.ChangeSpec) : _root_.Go.OpenSpec := { _root_.Go.OpenSpec.ofChange s with cond := some uptoSmall }

/-- 'bondstoretop.CoreServes', WHERE WHAT IT READS IS OF BULK AT MOST 1048576: true; the input reads as it did. -/
def coreServesUptoRow : OpenClaim := { program := "ytibneekkkdnmgaagreatdoor", sum := "2dd087db23b84cf268c0aeb02c5639bde23938b66e6bf6eed66062905ed71ba5", func := "bondstore/bondstoretop.CoreServes", spec := "coreServes", inPlace := ["internal/abi.NoEscape", "internal/bytealg.MakeNoZero", "internal/bytealg.IndexByteString", "internal/bytealg.IndexString", "math/bits.Add64", "math/bits.Sub64"], unfollowed := true, recurses := true, named := ["unicode/utf8.first", "unicode/utf8.acceptRanges", "bondstore/wide.Most", "bondstore/hold.told", "internal/bytealg.MaxLen"], plainKeys := false, apart := false, laid := [("unicode/utf8.acceptRanges", laid_unicode_utf8_acceptRanges), ("bondstore/wide.Most", laid_bondstore_wide_Most), ("bondstore/hold.told", laid_bondstore_hold_told), ("unicode/utf8.first", laid_unicode_utf8_first)], narrowed := true }
def CoreServesUptoSaid : Prop := coreServesUptoRow.holds Tryz.pinned (OpenSpec.upto coreServesSpec)

/-- 'bondstoretop.CoreCrash', WHERE WHAT IT READS IS OF BULK AT MOST 1048576: true; the input reads as it did. -/
def coreCrashUptoRow : OpenClaim := { program := "ytibneekkkdnmgaagreatdoor", sum := "2dd087db23b84cf268c0aeb02c5639bde23938b66e6bf6eed66062905ed71ba5", func := "bondstore/bondstoretop.CoreCrash", spec := "coreCrash", inPlace := ["internal/abi.NoEscape", "internal/bytealg.MakeNoZero", "internal/bytealg.IndexByteString", "internal/bytealg.IndexString", "math/bits.Add64", "math/bits.Sub64"], unfollowed := true, recurses := true, named := ["unicode/utf8.first", "unicode/utf8.acceptRanges", "bondstore/wide.Most", "bondstore/hold.told", "internal/bytealg.MaxLen"], plainKeys := false, apart := false, laid := [("unicode/utf8.acceptRanges", laid_unicode_utf8_acceptRanges), ("bondstore/wide.Most", laid_bondstore_wide_Most), ("bondstore/hold.told", laid_bondstore_hold_told), ("unicode/utf8.first", laid_unicode_utf8_first)], narrowed := true }
def CoreCrashUptoSaid : Prop := coreCrashUptoRow.holds Tryz.pinned (OpenSpec.upto coreCrashSpec)

/-- 'bondstoretop.CoreSums', WHERE WHAT IT READS IS OF BULK AT MOST 1048576: true; the input reads as it did. -/
def coreSumsUptoRow : OpenClaim := { program := "ytibneekkkdnmgaagreatdoor", sum := "2dd087db23b84cf268c0aeb02c5639bde23938b66e6bf6eed66062905ed71ba5", func := "bondstore/bondstoretop.CoreSums", spec := "coreSums", inPlace := ["internal/abi.NoEscape", "internal/bytealg.MakeNoZero", "internal/bytealg.IndexByteString", "internal/bytealg.IndexString", "math/bits.Add64", "math/bits.Sub64"], unfollowed := true, recurses := true, named := ["unicode/utf8.first", "unicode/utf8.acceptRanges", "bondstore/wide.Most", "bondstore/hold.told", "internal/bytealg.MaxLen"], plainKeys := false, apart := false, laid := [("unicode/utf8.acceptRanges", laid_unicode_utf8_acceptRanges), ("bondstore/wide.Most", laid_bondstore_wide_Most), ("bondstore/hold.told", laid_bondstore_hold_told), ("unicode/utf8.first", laid_unicode_utf8_first)], narrowed := true }
def CoreSumsUptoSaid : Prop := coreSumsUptoRow.holds Tryz.pinned (OpenSpec.upto coreSumsSpec)

/-- 'bondstoretop.CoreEnds', WHERE WHAT IT READS IS OF BULK AT MOST 1048576: true; the input reads as it did. -/
def coreEndsUptoRow : OpenClaim := { program := "ytibneekkkdnmgaagreatdoor", sum := "2dd087db23b84cf268c0aeb02c5639bde23938b66e6bf6eed66062905ed71ba5", func := "bondstore/bondstoretop.CoreEnds", spec := "coreEnds", inPlace := ["internal/abi.NoEscape", "internal/bytealg.MakeNoZero", "internal/bytealg.IndexByteString", "internal/bytealg.IndexString", "math/bits.Add64", "math/bits.Sub64"], unfollowed := true, recurses := true, named := ["unicode/utf8.first", "unicode/utf8.acceptRanges", "bondstore/wide.Most", "bondstore/hold.told", "internal/bytealg.MaxLen"], plainKeys := false, apart := false, laid := [("unicode/utf8.acceptRanges", laid_unicode_utf8_acceptRanges), ("bondstore/wide.Most", laid_bondstore_wide_Most), ("bondstore/hold.told", laid_bondstore_hold_told), ("unicode/utf8.first", laid_unicode_utf8_first)], narrowed := true }
def CoreEndsUptoSaid : Prop := coreEndsUptoRow.holds Tryz.pinned (OpenSpec.upto coreEndsSpec)

/-- 'bondstoretop.CoreSaves', WHERE WHAT IT READS IS OF BULK AT MOST 1048576: true; the input reads as it did. -/
def coreSavesUptoRow : OpenClaim := { program := "ytibneekkkdnmgaagreatdoor", sum := "2dd087db23b84cf268c0aeb02c5639bde23938b66e6bf6eed66062905ed71ba5", func := "bondstore/bondstoretop.CoreSaves", spec := "coreSaves", inPlace := ["internal/abi.NoEscape", "internal/bytealg.MakeNoZero", "internal/bytealg.IndexByteString", "internal/bytealg.IndexString", "math/bits.Add64", "math/bits.Sub64"], unfollowed := true, recurses := true, named := ["unicode/utf8.first", "unicode/utf8.acceptRanges", "bondstore/wide.Most", "bondstore/hold.told", "internal/bytealg.MaxLen"], plainKeys := false, apart := false, laid := [("unicode/utf8.acceptRanges", laid_unicode_utf8_acceptRanges), ("bondstore/wide.Most", laid_bondstore_wide_Most), ("bondstore/hold.told", laid_bondstore_hold_told), ("unicode/utf8.first", laid_unicode_utf8_first)], narrowed := true }
def CoreSavesUptoSaid : Prop := coreSavesUptoRow.holds Tryz.pinned (OpenSpec.upto coreSavesSpec)

/-- 'bondstoretop.CoreStamps', WHERE WHAT IT READS IS OF BULK AT MOST 1048576: true; the input reads as it did. -/
def coreStampsUptoRow : OpenClaim := { program := "ytibneekkkdnmgaagreatdoor", sum := "2dd087db23b84cf268c0aeb02c5639bde23938b66e6bf6eed66062905ed71ba5", func := "bondstore/bondstoretop.CoreStamps", spec := "coreStamps", inPlace := ["internal/abi.NoEscape", "internal/bytealg.MakeNoZero", "internal/bytealg.IndexByteString", "internal/bytealg.IndexString", "math/bits.Add64", "math/bits.Sub64"], unfollowed := true, recurses := true, named := ["unicode/utf8.first", "unicode/utf8.acceptRanges", "bondstore/wide.Most", "bondstore/hold.told", "internal/bytealg.MaxLen"], plainKeys := false, apart := false, laid := [("unicode/utf8.acceptRanges", laid_unicode_utf8_acceptRanges), ("bondstore/wide.Most", laid_bondstore_wide_Most), ("bondstore/hold.told", laid_bondstore_hold_told), ("unicode/utf8.first", laid_unicode_utf8_first)], narrowed := true }
def CoreStampsUptoSaid : Prop := coreStampsUptoRow.holds Tryz.pinned (OpenSpec.upto coreStampsSpec)

/-- 'bondstoretop.CoreLimits', WHERE WHAT IT READS IS OF BULK AT MOST 1048576: true; the input reads as it did. -/
def coreLimitsUptoRow : OpenClaim := { program := "ytibneekkkdnmgaagreatdoor", sum := "2dd087db23b84cf268c0aeb02c5639bde23938b66e6bf6eed66062905ed71ba5", func := "bondstore/bondstoretop.CoreLimits", spec := "coreLimits", inPlace := ["internal/abi.NoEscape", "internal/bytealg.MakeNoZero", "internal/bytealg.IndexByteString", "internal/bytealg.IndexString", "math/bits.Add64", "math/bits.Sub64"], unfollowed := true, recurses := true, named := ["unicode/utf8.first", "unicode/utf8.acceptRanges", "bondstore/wide.Most", "bondstore/hold.told", "internal/bytealg.MaxLen"], plainKeys := false, apart := false, laid := [("unicode/utf8.acceptRanges", laid_unicode_utf8_acceptRanges), ("bondstore/wide.Most", laid_bondstore_wide_Most), ("bondstore/hold.told", laid_bondstore_hold_told), ("unicode/utf8.first", laid_unicode_utf8_first)], narrowed := true }
def CoreLimitsUptoSaid : Prop := coreLimitsUptoRow.holds Tryz.pinned (OpenSpec.upto coreLimitsSpec)

/-- 'bondstoretop.CoreChains', WHERE WHAT IT READS IS OF BULK AT MOST 1048576: true; the input reads as it did. -/
def coreChainsUptoRow : OpenClaim := { program := "ytibneekkkdnmgaagreatdoor", sum := "2dd087db23b84cf268c0aeb02c5639bde23938b66e6bf6eed66062905ed71ba5", func := "bondstore/bondstoretop.CoreChains", spec := "coreChains", inPlace := ["internal/abi.NoEscape", "internal/bytealg.MakeNoZero", "internal/bytealg.IndexByteString", "internal/bytealg.IndexString", "math/bits.Add64", "math/bits.Sub64"], unfollowed := true, recurses := true, named := ["unicode/utf8.first", "unicode/utf8.acceptRanges", "bondstore/wide.Most", "bondstore/hold.told", "internal/bytealg.MaxLen"], plainKeys := false, apart := false, laid := [("unicode/utf8.acceptRanges", laid_unicode_utf8_acceptRanges), ("bondstore/wide.Most", laid_bondstore_wide_Most), ("bondstore/hold.told", laid_bondstore_hold_told), ("unicode/utf8.first", laid_unicode_utf8_first)], narrowed := true }
def CoreChainsUptoSaid : Prop := coreChainsUptoRow.holds Tryz.pinned (OpenSpec.upto coreChainsSpec)

/-- 'bondstoretop.CoreAgain', WHERE WHAT IT READS IS OF BULK AT MOST 1048576: true; the input reads as it did. -/
def coreAgainUptoRow : OpenClaim := { program := "ytibneekkkdnmgaagreatdoor", sum := "2dd087db23b84cf268c0aeb02c5639bde23938b66e6bf6eed66062905ed71ba5", func := "bondstore/bondstoretop.CoreAgain", spec := "coreAgain", inPlace := ["internal/abi.NoEscape", "internal/bytealg.MakeNoZero", "internal/bytealg.IndexByteString", "internal/bytealg.IndexString", "math/bits.Add64", "math/bits.Sub64"], unfollowed := true, recurses := true, named := ["unicode/utf8.first", "unicode/utf8.acceptRanges", "bondstore/wide.Most", "bondstore/hold.told", "internal/bytealg.MaxLen"], plainKeys := false, apart := false, laid := [("unicode/utf8.acceptRanges", laid_unicode_utf8_acceptRanges), ("bondstore/wide.Most", laid_bondstore_wide_Most), ("bondstore/hold.told", laid_bondstore_hold_told), ("unicode/utf8.first", laid_unicode_utf8_first)], narrowed := true }
def CoreAgainUptoSaid : Prop := coreAgainUptoRow.holds Tryz.pinned (OpenSpec.upto coreAgainSpec)

/-- 'bondstoretop.CoreDisk', WHERE WHAT IT READS IS OF BULK AT MOST 1048576: true; the input reads as it did. -/
def coreDiskUptoRow : OpenClaim := { program := "ytibneekkkdnmgaagreatdoor", sum := "2dd087db23b84cf268c0aeb02c5639bde23938b66e6bf6eed66062905ed71ba5", func := "bondstore/bondstoretop.CoreDisk", spec := "coreDisk", inPlace := ["internal/abi.NoEscape", "internal/bytealg.MakeNoZero", "internal/bytealg.IndexByteString", "internal/bytealg.IndexString", "math/bits.Add64", "math/bits.Sub64"], unfollowed := true, recurses := true, named := ["unicode/utf8.first", "unicode/utf8.acceptRanges", "bondstore/wide.Most", "bondstore/hold.told", "internal/bytealg.MaxLen"], plainKeys := false, apart := false, laid := [("unicode/utf8.acceptRanges", laid_unicode_utf8_acceptRanges), ("bondstore/wide.Most", laid_bondstore_wide_Most), ("bondstore/hold.told", laid_bondstore_hold_told), ("unicode/utf8.first", laid_unicode_utf8_first)], narrowed := true }
def CoreDiskUptoSaid : Prop := coreDiskUptoRow.holds Tryz.pinned (OpenSpec.upto coreDiskSpec)

/-- 'bondstoretop.CoreReads', WHERE WHAT IT READS IS OF BULK AT MOST 1048576: true; the input reads as it did. -/
def coreReadsUptoRow : OpenClaim := { program := "ytibneekkkdnmgaagreatdoor", sum := "2dd087db23b84cf268c0aeb02c5639bde23938b66e6bf6eed66062905ed71ba5", func := "bondstore/bondstoretop.CoreReads", spec := "coreReads", inPlace := ["internal/abi.NoEscape", "internal/bytealg.MakeNoZero", "internal/bytealg.IndexByteString", "internal/bytealg.IndexString", "math/bits.Add64", "math/bits.Sub64"], unfollowed := true, recurses := true, named := ["unicode/utf8.first", "unicode/utf8.acceptRanges", "bondstore/wide.Most", "bondstore/hold.told", "internal/bytealg.MaxLen"], plainKeys := false, apart := false, laid := [("unicode/utf8.acceptRanges", laid_unicode_utf8_acceptRanges), ("bondstore/wide.Most", laid_bondstore_wide_Most), ("bondstore/hold.told", laid_bondstore_hold_told), ("unicode/utf8.first", laid_unicode_utf8_first)], narrowed := true }
def CoreReadsUptoSaid : Prop := coreReadsUptoRow.holds Tryz.pinned (OpenSpec.upto coreReadsSpec)

end Rows
end Go.Proofs.YtibneekkkdnmgaaGreatDoor
