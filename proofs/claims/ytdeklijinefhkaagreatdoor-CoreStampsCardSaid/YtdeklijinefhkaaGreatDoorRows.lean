/-
  NARROWER THAN 'FOR EVERY INPUT', by the rows' own cells (each row's printed sentence says how): StoreReplies: laid · StoreWrong: laid · StoreCounts: laid · StorePowers: laid · CoreStamps: laid.
  DERIVED. THE GIVEN ROWS OF THIS SEAT. 5 by the template 'for every input the law returns true; each argument reads behind the call as it read before'; 0 by the template 'total and deterministic' (their statements: YtdeklijinefhkaaGreatDoorTotals.lean).
  GIVEN WITH THE SEED: the statements are not yours to turn. If you find one false, say at which input.
  Laid BY PROGRAM, IN A SANDBOX (cutbox-rows.mjs): the forced cells as the released guide's own fill.sh prints them over the translation 3ef4711e3701fdb9… (all of the seat's roots in one cut). By AI agents, Wed Nov 11 2026. No macro, syntax, notation, axiom, sorry.
-/
import Derived.Test.YtdeklijinefhkaaGreatDoorChecked
import GoSem.PinnedTables
import GoSem.Claim
import GoSem.ClaimJoined
import GoSem.ClaimMapViews
import Derived.JoinedTies
import Derived.KernelRfl
namespace Go.Proofs.YtdeklijinefhkaaGreatDoor
/- THE CELL 'sum', in the pinned program and in every row, IS THE sha256 OF THE DUMP (.gsa) THAT YtdeklijinefhkaaGreatDoorProg.lean LOADS. Nothing in Lean hashes anything: it is a label: what it is worth is what the hold of that sum in a sandbox is worth. -/
noncomputable def Tryz.pinned : Pinned := { name := "ytdeklijinefhkaagreatdoor", sum := "3ef4711e3701fdb9419003a99ae09d269c2984ca098284259f80a0d38b9990ba", checked := Tryz.checked }
namespace Rows
def none {H : Type} : Left H := { results := [], args := [] }

/- WHAT THE LISTED PACKAGE-LEVEL VARIABLES READ AS WHEN THE CALL BEGINS. Each datum BY PROGRAM (the guide's laid-datum.mjs) off the statement by which the dump's own 'gosem.cut.vars' lays the variable. In a bare row this is a premise. The card (YtdeklijinefhkaaGreatDoorCards.lean) ties it to the program's text. -/
def laid_unicode_utf8_acceptRanges {H : Type} : DataW H := .agg [.agg [.lit (.int .u8 128), .lit (.int .u8 191)], .agg [.lit (.int .u8 160), .lit (.int .u8 191)], .agg [.lit (.int .u8 128), .lit (.int .u8 159)], .agg [.lit (.int .u8 144), .lit (.int .u8 191)], .agg [.lit (.int .u8 128), .lit (.int .u8 143)], .agg [.lit (.int .u8 0), .lit (.int .u8 0)], .agg [.lit (.int .u8 0), .lit (.int .u8 0)], .agg [.lit (.int .u8 0), .lit (.int .u8 0)], .agg [.lit (.int .u8 0), .lit (.int .u8 0)], .agg [.lit (.int .u8 0), .lit (.int .u8 0)], .agg [.lit (.int .u8 0), .lit (.int .u8 0)], .agg [.lit (.int .u8 0), .lit (.int .u8 0)], .agg [.lit (.int .u8 0), .lit (.int .u8 0)], .agg [.lit (.int .u8 0), .lit (.int .u8 0)], .agg [.lit (.int .u8 0), .lit (.int .u8 0)], .agg [.lit (.int .u8 0), .lit (.int .u8 0)]]
def laid_bondstore_wide_Most {H : Type} : DataW H := .agg [.lit (.int .u64 18446744073709551615), .lit (.int .u64 18446744073709551615)]
def laid_bondstore_hold_told {H : Type} : DataW H := .agg [.lit (.int .i64 0), .lit (.int .i64 0), .lit (.int .i64 27), .lit (.int .i64 28), .lit (.int .i64 29)]
/-- One of Go's own tables, pinned by name: the form's constant. -/
def laid_unicode_utf8_first : DataW Unit := Go.Pinned.utf8First

/-- 'bondstorelaw24.StoreReplies': WHATEVER THE INPUT: true; the input reads as it did. -/
def storeRepliesSpec : ChangeSpec := { name := "storeReplies", fn := fun _ => fun
  | [d1, d2] => { results := [.lit (.bool true)], args := [d1, d2] }
  | _ => none }
def storeRepliesRow : OpenClaim := { program := "ytdeklijinefhkaagreatdoor", sum := "3ef4711e3701fdb9419003a99ae09d269c2984ca098284259f80a0d38b9990ba", func := "bondstore/bondstorelaw24.StoreReplies", spec := "storeReplies", inPlace := ["internal/abi.NoEscape", "internal/bytealg.MakeNoZero", "internal/bytealg.IndexByteString", "internal/bytealg.IndexString", "math/bits.Add64", "math/bits.Sub64"], unfollowed := true, recurses := true, named := ["unicode/utf8.first", "unicode/utf8.acceptRanges", "bondstore/wide.Most", "bondstore/hold.told", "internal/bytealg.MaxLen"], plainKeys := false, apart := false, laid := [("unicode/utf8.acceptRanges", laid_unicode_utf8_acceptRanges), ("bondstore/wide.Most", laid_bondstore_wide_Most), ("bondstore/hold.told", laid_bondstore_hold_told), ("unicode/utf8.first", laid_unicode_utf8_first)] }
def StoreRepliesSaid : Prop := storeRepliesRow.holds Tryz.pinned (OpenSpec.ofChange storeRepliesSpec)

/-- ITS FALSE NEIGHBOUR: 'it returns false'. Refute it at one input. -/
def storeRepliesWrong : ChangeSpec := { name := "storeReplies", fn := fun _ => fun
  | [d1, d2] => { results := [.lit (.bool false)], args := [d1, d2] }
  | _ => none }
def StoreRepliesWrongFalsely : Prop := storeRepliesRow.holds Tryz.pinned (OpenSpec.ofChange storeRepliesWrong)

/-- 'bondstorelaw24.StoreWrong': WHATEVER THE INPUT: true; the input reads as it did. -/
def storeWrongSpec : ChangeSpec := { name := "storeWrong", fn := fun _ => fun
  | [d1, d2] => { results := [.lit (.bool true)], args := [d1, d2] }
  | _ => none }
def storeWrongRow : OpenClaim := { program := "ytdeklijinefhkaagreatdoor", sum := "3ef4711e3701fdb9419003a99ae09d269c2984ca098284259f80a0d38b9990ba", func := "bondstore/bondstorelaw24.StoreWrong", spec := "storeWrong", inPlace := ["internal/abi.NoEscape", "internal/bytealg.MakeNoZero", "internal/bytealg.IndexByteString", "internal/bytealg.IndexString", "math/bits.Add64", "math/bits.Sub64"], unfollowed := true, recurses := true, named := ["unicode/utf8.first", "unicode/utf8.acceptRanges", "bondstore/wide.Most", "bondstore/hold.told", "internal/bytealg.MaxLen"], plainKeys := false, apart := false, laid := [("unicode/utf8.acceptRanges", laid_unicode_utf8_acceptRanges), ("bondstore/wide.Most", laid_bondstore_wide_Most), ("bondstore/hold.told", laid_bondstore_hold_told), ("unicode/utf8.first", laid_unicode_utf8_first)] }
def StoreWrongSaid : Prop := storeWrongRow.holds Tryz.pinned (OpenSpec.ofChange storeWrongSpec)

/-- ITS FALSE NEIGHBOUR: 'it returns false'. Refute it at one input. -/
def storeWrongWrong : ChangeSpec := { name := "storeWrong", fn := fun _ => fun
  | [d1, d2] => { results := [.lit (.bool false)], args := [d1, d2] }
  | _ => none }
def StoreWrongWrongFalsely : Prop := storeWrongRow.holds Tryz.pinned (OpenSpec.ofChange storeWrongWrong)

/-- 'bondstorelaw24.StoreCounts': WHATEVER THE INPUT: true; the input reads as it did. -/
def storeCountsSpec : ChangeSpec := { name := "storeCounts", fn := fun _ => fun
  | [d1, d2] => { results := [.lit (.bool true)], args := [d1, d2] }
  | _ => none }
def storeCountsRow : OpenClaim := { program := "ytdeklijinefhkaagreatdoor", sum := "3ef4711e3701fdb9419003a99ae09d269c2984ca098284259f80a0d38b9990ba", func := "bondstore/bondstorelaw24.StoreCounts", spec := "storeCounts", inPlace := ["internal/abi.NoEscape", "internal/bytealg.MakeNoZero", "internal/bytealg.IndexByteString", "internal/bytealg.IndexString", "math/bits.Add64", "math/bits.Sub64"], unfollowed := true, recurses := true, named := ["unicode/utf8.first", "unicode/utf8.acceptRanges", "bondstore/wide.Most", "bondstore/hold.told", "internal/bytealg.MaxLen"], plainKeys := false, apart := false, laid := [("unicode/utf8.acceptRanges", laid_unicode_utf8_acceptRanges), ("bondstore/wide.Most", laid_bondstore_wide_Most), ("bondstore/hold.told", laid_bondstore_hold_told), ("unicode/utf8.first", laid_unicode_utf8_first)] }
def StoreCountsSaid : Prop := storeCountsRow.holds Tryz.pinned (OpenSpec.ofChange storeCountsSpec)

/-- ITS FALSE NEIGHBOUR: 'it returns false'. Refute it at one input. -/
def storeCountsWrong : ChangeSpec := { name := "storeCounts", fn := fun _ => fun
  | [d1, d2] => { results := [.lit (.bool false)], args := [d1, d2] }
  | _ => none }
def StoreCountsWrongFalsely : Prop := storeCountsRow.holds Tryz.pinned (OpenSpec.ofChange storeCountsWrong)

/-- 'bondstorelaw24.StorePowers': WHATEVER THE INPUT: true; the input reads as it did. -/
def storePowersSpec : ChangeSpec := { name := "storePowers", fn := fun _ => fun
  | [d1, d2, d3, d4, d5] => { results := [.lit (.bool true)], args := [d1, d2, d3, d4, d5] }
  | _ => none }
def storePowersRow : OpenClaim := { program := "ytdeklijinefhkaagreatdoor", sum := "3ef4711e3701fdb9419003a99ae09d269c2984ca098284259f80a0d38b9990ba", func := "bondstore/bondstorelaw24.StorePowers", spec := "storePowers", inPlace := ["internal/abi.NoEscape", "internal/bytealg.MakeNoZero", "internal/bytealg.IndexByteString", "internal/bytealg.IndexString", "math/bits.Add64", "math/bits.Sub64"], unfollowed := true, recurses := true, named := ["unicode/utf8.first", "unicode/utf8.acceptRanges", "bondstore/wide.Most", "bondstore/hold.told", "internal/bytealg.MaxLen"], plainKeys := false, apart := false, laid := [("unicode/utf8.acceptRanges", laid_unicode_utf8_acceptRanges), ("bondstore/wide.Most", laid_bondstore_wide_Most), ("bondstore/hold.told", laid_bondstore_hold_told), ("unicode/utf8.first", laid_unicode_utf8_first)] }
def StorePowersSaid : Prop := storePowersRow.holds Tryz.pinned (OpenSpec.ofChange storePowersSpec)

/-- ITS FALSE NEIGHBOUR: 'it returns false'. Refute it at one input. -/
def storePowersWrong : ChangeSpec := { name := "storePowers", fn := fun _ => fun
  | [d1, d2, d3, d4, d5] => { results := [.lit (.bool false)], args := [d1, d2, d3, d4, d5] }
  | _ => none }
def StorePowersWrongFalsely : Prop := storePowersRow.holds Tryz.pinned (OpenSpec.ofChange storePowersWrong)

/-- 'bondstoretop.CoreStamps': WHATEVER THE INPUT: true; the input reads as it did. -/
def coreStampsSpec : ChangeSpec := { name := "coreStamps", fn := fun _ => fun
  | [d] => { results := [.lit (.bool true)], args := [d] }
  | _ => none }
def coreStampsRow : OpenClaim := { program := "ytdeklijinefhkaagreatdoor", sum := "3ef4711e3701fdb9419003a99ae09d269c2984ca098284259f80a0d38b9990ba", func := "bondstore/bondstoretop.CoreStamps", spec := "coreStamps", inPlace := ["internal/abi.NoEscape", "internal/bytealg.MakeNoZero", "internal/bytealg.IndexByteString", "internal/bytealg.IndexString", "math/bits.Add64", "math/bits.Sub64"], unfollowed := true, recurses := true, named := ["unicode/utf8.first", "unicode/utf8.acceptRanges", "bondstore/wide.Most", "bondstore/hold.told", "internal/bytealg.MaxLen"], plainKeys := false, apart := false, laid := [("unicode/utf8.acceptRanges", laid_unicode_utf8_acceptRanges), ("bondstore/wide.Most", laid_bondstore_wide_Most), ("bondstore/hold.told", laid_bondstore_hold_told), ("unicode/utf8.first", laid_unicode_utf8_first)] }
def CoreStampsSaid : Prop := coreStampsRow.holds Tryz.pinned (OpenSpec.ofChange coreStampsSpec)

/-- ITS FALSE NEIGHBOUR: 'it returns false'. Refute it at one input. -/
def coreStampsWrong : ChangeSpec := { name := "coreStamps", fn := fun _ => fun
  | [d] => { results := [.lit (.bool false)], args := [d] }
  | _ => none }
def CoreStampsWrongFalsely : Prop := coreStampsRow.holds Tryz.pinned (OpenSpec.ofChange coreStampsWrong)

/- THE SECOND FORM. 'bulk': how many values and letters a reading holds, each counted each time it is reached (what is shared counts as often as it is met; a slice's spare places count too). A statement '..UptoSaid' is the law's where the arguments, and the package variables that the reading takes, are together of bulk at most 1048576: NARROWER than '..Said'. Prove '..Said' where nothing that the law and all that it calls make is longer than what came in: it says more and counts as full. Else prove '..UptoSaid'. A law counts once. -/
mutual
def uptoBulk {H : Type} : DataW H → Nat
  | .lit (.string bytes) => bytes.length + 1
  | .lit _ => 1
  | .nil => 1
  | .ptr d => uptoBulk d + 1
  | .slice elems spare => uptoBulkAll elems + uptoBulkAll spare + 1
  | .agg parts => uptoBulkAll parts + 1
  | .iface _ d => uptoBulk d + 1
  | .map entries => uptoBulkEntries entries + 1
  | .held _ => 1
def uptoBulkAll {H : Type} : List (DataW H) → Nat
  | [] => 0
  | d :: r => uptoBulk d + uptoBulkAll r
def uptoBulkEntries {H : Type} : List (Lit × DataW H) → Nat
  | [] => 0
  | x :: r => uptoBulkEntry x + uptoBulkEntries r
def uptoBulkEntry {H : Type} : Lit × DataW H → Nat
  | (.string bytes, d) => bytes.length + uptoBulk d + 1
  | (_, d) => uptoBulk d + 1
 end
def uptoSmall : (H : Type) → List (DataW H) → Bool := fun _ ds => decide (uptoBulkAll ds ≤ 1048576)
def OpenSpec.upto (s : _root_.Go.ChangeSpec) : _root_.Go.OpenSpec := { _root_.Go.OpenSpec.ofChange s with cond := some uptoSmall }

/-- 'bondstorelaw24.StoreReplies', WHERE WHAT IT READS IS OF BULK AT MOST 1048576: true; the input reads as it did. -/
def storeRepliesUptoRow : OpenClaim := { program := "ytdeklijinefhkaagreatdoor", sum := "3ef4711e3701fdb9419003a99ae09d269c2984ca098284259f80a0d38b9990ba", func := "bondstore/bondstorelaw24.StoreReplies", spec := "storeReplies", inPlace := ["internal/abi.NoEscape", "internal/bytealg.MakeNoZero", "internal/bytealg.IndexByteString", "internal/bytealg.IndexString", "math/bits.Add64", "math/bits.Sub64"], unfollowed := true, recurses := true, named := ["unicode/utf8.first", "unicode/utf8.acceptRanges", "bondstore/wide.Most", "bondstore/hold.told", "internal/bytealg.MaxLen"], plainKeys := false, apart := false, laid := [("unicode/utf8.acceptRanges", laid_unicode_utf8_acceptRanges), ("bondstore/wide.Most", laid_bondstore_wide_Most), ("bondstore/hold.told", laid_bondstore_hold_told), ("unicode/utf8.first", laid_unicode_utf8_first)], narrowed := true }
def StoreRepliesUptoSaid : Prop := storeRepliesUptoRow.holds Tryz.pinned (OpenSpec.upto storeRepliesSpec)

/-- 'bondstorelaw24.StoreWrong', WHERE WHAT IT READS IS OF BULK AT MOST 1048576: true; the input reads as it did. -/
def storeWrongUptoRow : OpenClaim := { program := "ytdeklijinefhkaagreatdoor", sum := "3ef4711e3701fdb9419003a99ae09d269c2984ca098284259f80a0d38b9990ba", func := "bondstore/bondstorelaw24.StoreWrong", spec := "storeWrong", inPlace := ["internal/abi.NoEscape", "internal/bytealg.MakeNoZero", "internal/bytealg.IndexByteString", "internal/bytealg.IndexString", "math/bits.Add64", "math/bits.Sub64"], unfollowed := true, recurses := true, named := ["unicode/utf8.first", "unicode/utf8.acceptRanges", "bondstore/wide.Most", "bondstore/hold.told", "internal/bytealg.MaxLen"], plainKeys := false, apart := false, laid := [("unicode/utf8.acceptRanges", laid_unicode_utf8_acceptRanges), ("bondstore/wide.Most", laid_bondstore_wide_Most), ("bondstore/hold.told", laid_bondstore_hold_told), ("unicode/utf8.first", laid_unicode_utf8_first)], narrowed := true }
def StoreWrongUptoSaid : Prop := storeWrongUptoRow.holds Tryz.pinned (OpenSpec.upto storeWrongSpec)

/-- 'bondstorelaw24.StoreCounts', WHERE WHAT IT READS IS OF BULK AT MOST 1048576: true; the input reads as it did. -/
def storeCountsUptoRow : OpenClaim := { program := "ytdeklijinefhkaagreatdoor", sum := "3ef4711e3701fdb9419003a99ae09d269c2984ca098284259f80a0d38b9990ba", func := "bondstore/bondstorelaw24.StoreCounts", spec := "storeCounts", inPlace := ["internal/abi.NoEscape", "internal/bytealg.MakeNoZero", "internal/bytealg.IndexByteString", "internal/bytealg.IndexString", "math/bits.Add64", "math/bits.Sub64"], unfollowed := true, recurses := true, named := ["unicode/utf8.first", "unicode/utf8.acceptRanges", "bondstore/wide.Most", "bondstore/hold.told", "internal/bytealg.MaxLen"], plainKeys := false, apart := false, laid := [("unicode/utf8.acceptRanges", laid_unicode_utf8_acceptRanges), ("bondstore/wide.Most", laid_bondstore_wide_Most), ("bondstore/hold.told", laid_bondstore_hold_told), ("unicode/utf8.first", laid_unicode_utf8_first)], narrowed := true }
def StoreCountsUptoSaid : Prop := storeCountsUptoRow.holds Tryz.pinned (OpenSpec.upto storeCountsSpec)

/-- 'bondstorelaw24.StorePowers', WHERE WHAT IT READS IS OF BULK AT MOST 1048576: true; the input reads as it did. -/
def storePowersUptoRow : OpenClaim := { program := "ytdeklijinefhkaagreatdoor", sum := "3ef4711e3701fdb9419003a99ae09d269c2984ca098284259f80a0d38b9990ba", func := "bondstore/bondstorelaw24.StorePowers", spec := "storePowers", inPlace := ["internal/abi.NoEscape", "internal/bytealg.MakeNoZero", "internal/bytealg.IndexByteString", "internal/bytealg.IndexString", "math/bits.Add64", "math/bits.Sub64"], unfollowed := true, recurses := true, named := ["unicode/utf8.first", "unicode/utf8.acceptRanges", "bondstore/wide.Most", "bondstore/hold.told", "internal/bytealg.MaxLen"], plainKeys := false, apart := false, laid := [("unicode/utf8.acceptRanges", laid_unicode_utf8_acceptRanges), ("bondstore/wide.Most", laid_bondstore_wide_Most), ("bondstore/hold.told", laid_bondstore_hold_told), ("unicode/utf8.first", laid_unicode_utf8_first)], narrowed := true }
def StorePowersUptoSaid : Prop := storePowersUptoRow.holds Tryz.pinned (OpenSpec.upto storePowersSpec)

/-- 'bondstoretop.CoreStamps', WHERE WHAT IT READS IS OF BULK AT MOST 1048576: true; the input reads as it did. -/
def coreStampsUptoRow : OpenClaim := { program := "ytdeklijinefhkaagreatdoor", sum := "3ef4711e3701fdb9419003a99ae09d269c2984ca098284259f80a0d38b9990ba", func := "bondstore/bondstoretop.CoreStamps", spec := "coreStamps", inPlace := ["internal/abi.NoEscape", "internal/bytealg.MakeNoZero", "internal/bytealg.IndexByteString", "internal/bytealg.IndexString", "math/bits.Add64", "math/bits.Sub64"], unfollowed := true, recurses := true, named := ["unicode/utf8.first", "unicode/utf8.acceptRanges", "bondstore/wide.Most", "bondstore/hold.told", "internal/bytealg.MaxLen"], plainKeys := false, apart := false, laid := [("unicode/utf8.acceptRanges", laid_unicode_utf8_acceptRanges), ("bondstore/wide.Most", laid_bondstore_wide_Most), ("bondstore/hold.told", laid_bondstore_hold_told), ("unicode/utf8.first", laid_unicode_utf8_first)], narrowed := true }
def CoreStampsUptoSaid : Prop := coreStampsUptoRow.holds Tryz.pinned (OpenSpec.upto coreStampsSpec)

end Rows
end Go.Proofs.YtdeklijinefhkaaGreatDoor
