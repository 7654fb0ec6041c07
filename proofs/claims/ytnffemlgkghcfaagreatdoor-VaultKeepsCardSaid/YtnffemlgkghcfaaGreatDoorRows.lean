/-
  NARROWER THAN 'FOR EVERY INPUT', by the rows' own cells (each row's printed sentence says how): VaultRoom: laid · VaultSaves: laid · VaultSick: laid · VaultKeeps: laid.
  DERIVED. THE GIVEN ROWS OF THIS SEAT. 4 by the template 'for every input the law returns true; each argument reads behind the call as it read before'; 0 by the template 'total and deterministic' (their statements: YtnffemlgkghcfaaGreatDoorTotals.lean).
  GIVEN WITH THE SEED: the statements are not yours to turn. If you find one false, say at which input.
  Laid BY PROGRAM, IN A SANDBOX (cutbox-rows.mjs): the forced cells as the released guide's own fill.sh prints them over the translation ea7bd5aa9526cffd… (all of the seat's roots in one cut). By AI agents, Wed Nov 11 2026. No macro, syntax, notation, axiom, sorry.
-/
import Derived.Test.YtnffemlgkghcfaaGreatDoorChecked
import GoSem.PinnedTables
import GoSem.Claim
import GoSem.ClaimJoined
import GoSem.ClaimMapViews
import Derived.JoinedTies
import Derived.KernelRfl
namespace Go.Proofs.YtnffemlgkghcfaaGreatDoor
/- THE CELL 'sum', in the pinned program and in every row, IS THE sha256 OF THE DUMP (.gsa) THAT YtnffemlgkghcfaaGreatDoorProg.lean LOADS. Nothing in Lean hashes anything: it is a label: what it is worth is what the hold of that sum in a sandbox is worth. -/
noncomputable def Tryz.pinned : Pinned := { name := "ytnffemlgkghcfaagreatdoor", sum := "ea7bd5aa9526cffdb15e0cadc84bdfca58da168d796958a00da94885de44edd5", checked := Tryz.checked }
namespace Rows
def none {H : Type} : Left H := { results := [], args := [] }

/- WHAT THE LISTED PACKAGE-LEVEL VARIABLES READ AS WHEN THE CALL BEGINS. Each datum BY PROGRAM (the guide's laid-datum.mjs) off the statement by which the dump's own 'gosem.cut.vars' lays the variable. In a bare row this is a premise. The card (YtnffemlgkghcfaaGreatDoorCards.lean) ties it to the program's text. -/
def laid_unicode_utf8_acceptRanges {H : Type} : DataW H := .agg [.agg [.lit (.int .u8 128), .lit (.int .u8 191)], .agg [.lit (.int .u8 160), .lit (.int .u8 191)], .agg [.lit (.int .u8 128), .lit (.int .u8 159)], .agg [.lit (.int .u8 144), .lit (.int .u8 191)], .agg [.lit (.int .u8 128), .lit (.int .u8 143)], .agg [.lit (.int .u8 0), .lit (.int .u8 0)], .agg [.lit (.int .u8 0), .lit (.int .u8 0)], .agg [.lit (.int .u8 0), .lit (.int .u8 0)], .agg [.lit (.int .u8 0), .lit (.int .u8 0)], .agg [.lit (.int .u8 0), .lit (.int .u8 0)], .agg [.lit (.int .u8 0), .lit (.int .u8 0)], .agg [.lit (.int .u8 0), .lit (.int .u8 0)], .agg [.lit (.int .u8 0), .lit (.int .u8 0)], .agg [.lit (.int .u8 0), .lit (.int .u8 0)], .agg [.lit (.int .u8 0), .lit (.int .u8 0)], .agg [.lit (.int .u8 0), .lit (.int .u8 0)]]
def laid_bondstore_wide_Most {H : Type} : DataW H := .agg [.lit (.int .u64 18446744073709551615), .lit (.int .u64 18446744073709551615)]
def laid_bondstore_hold_told {H : Type} : DataW H := .agg [.lit (.int .i64 0), .lit (.int .i64 0), .lit (.int .i64 27), .lit (.int .i64 28), .lit (.int .i64 29)]
/-- One of Go's own tables, pinned by name: the form's constant. -/
def laid_unicode_utf8_first : DataW Unit := Go.Pinned.utf8First

/-- 'bondstorelaw23.VaultRoom': WHATEVER THE INPUT: true; the input reads as it did. -/
def vaultRoomSpec : ChangeSpec := { name := "vaultRoom", fn := fun _ => fun
  | [d1, d2, d3] => { results := [.lit (.bool true)], args := [d1, d2, d3] }
  | _ => none }
def vaultRoomRow : OpenClaim := { program := "ytnffemlgkghcfaagreatdoor", sum := "ea7bd5aa9526cffdb15e0cadc84bdfca58da168d796958a00da94885de44edd5", func := "bondstore/bondstorelaw23.VaultRoom", spec := "vaultRoom", inPlace := ["internal/abi.NoEscape", "internal/bytealg.MakeNoZero", "internal/bytealg.IndexByteString", "internal/bytealg.IndexString", "math/bits.Add64", "math/bits.Sub64"], unfollowed := true, recurses := true, named := ["unicode/utf8.first", "unicode/utf8.acceptRanges", "bondstore/wide.Most", "bondstore/hold.told", "internal/bytealg.MaxLen"], apart := false, laid := [("unicode/utf8.acceptRanges", laid_unicode_utf8_acceptRanges), ("bondstore/wide.Most", laid_bondstore_wide_Most), ("bondstore/hold.told", laid_bondstore_hold_told), ("unicode/utf8.first", laid_unicode_utf8_first)] }
def VaultRoomSaid : Prop := vaultRoomRow.holds Tryz.pinned (OpenSpec.ofChange vaultRoomSpec)

/-- ITS FALSE NEIGHBOUR: 'it returns false'. Refute it at one input. -/
def vaultRoomWrong : ChangeSpec := { name := "vaultRoom", fn := fun _ => fun
  | [d1, d2, d3] => { results := [.lit (.bool false)], args := [d1, d2, d3] }
  | _ => none }
def VaultRoomWrongFalsely : Prop := vaultRoomRow.holds Tryz.pinned (OpenSpec.ofChange vaultRoomWrong)

/-- 'bondstorelaw23.VaultSaves': WHATEVER THE INPUT: true; the input reads as it did. -/
def vaultSavesSpec : ChangeSpec := { name := "vaultSaves", fn := fun _ => fun
  | [d1, d2, d3] => { results := [.lit (.bool true)], args := [d1, d2, d3] }
  | _ => none }
def vaultSavesRow : OpenClaim := { program := "ytnffemlgkghcfaagreatdoor", sum := "ea7bd5aa9526cffdb15e0cadc84bdfca58da168d796958a00da94885de44edd5", func := "bondstore/bondstorelaw23.VaultSaves", spec := "vaultSaves", inPlace := ["internal/abi.NoEscape", "internal/bytealg.MakeNoZero", "internal/bytealg.IndexByteString", "internal/bytealg.IndexString", "math/bits.Add64", "math/bits.Sub64"], unfollowed := true, recurses := true, named := ["unicode/utf8.first", "unicode/utf8.acceptRanges", "bondstore/wide.Most", "bondstore/hold.told", "internal/bytealg.MaxLen"], apart := false, laid := [("unicode/utf8.acceptRanges", laid_unicode_utf8_acceptRanges), ("bondstore/wide.Most", laid_bondstore_wide_Most), ("bondstore/hold.told", laid_bondstore_hold_told), ("unicode/utf8.first", laid_unicode_utf8_first)] }
def VaultSavesSaid : Prop := vaultSavesRow.holds Tryz.pinned (OpenSpec.ofChange vaultSavesSpec)

/-- ITS FALSE NEIGHBOUR: 'it returns false'. Refute it at one input. -/
def vaultSavesWrong : ChangeSpec := { name := "vaultSaves", fn := fun _ => fun
  | [d1, d2, d3] => { results := [.lit (.bool false)], args := [d1, d2, d3] }
  | _ => none }
def VaultSavesWrongFalsely : Prop := vaultSavesRow.holds Tryz.pinned (OpenSpec.ofChange vaultSavesWrong)

/-- 'bondstorelaw23.VaultSick': WHATEVER THE INPUT: true; the input reads as it did. -/
def vaultSickSpec : ChangeSpec := { name := "vaultSick", fn := fun _ => fun
  | [d1, d2, d3, d4] => { results := [.lit (.bool true)], args := [d1, d2, d3, d4] }
  | _ => none }
def vaultSickRow : OpenClaim := { program := "ytnffemlgkghcfaagreatdoor", sum := "ea7bd5aa9526cffdb15e0cadc84bdfca58da168d796958a00da94885de44edd5", func := "bondstore/bondstorelaw23.VaultSick", spec := "vaultSick", inPlace := ["internal/abi.NoEscape", "internal/bytealg.MakeNoZero", "internal/bytealg.IndexByteString", "internal/bytealg.IndexString", "math/bits.Add64", "math/bits.Sub64"], unfollowed := true, recurses := true, named := ["unicode/utf8.first", "unicode/utf8.acceptRanges", "bondstore/wide.Most", "bondstore/hold.told", "internal/bytealg.MaxLen"], apart := false, laid := [("unicode/utf8.acceptRanges", laid_unicode_utf8_acceptRanges), ("bondstore/wide.Most", laid_bondstore_wide_Most), ("bondstore/hold.told", laid_bondstore_hold_told), ("unicode/utf8.first", laid_unicode_utf8_first)] }
def VaultSickSaid : Prop := vaultSickRow.holds Tryz.pinned (OpenSpec.ofChange vaultSickSpec)

/-- ITS FALSE NEIGHBOUR: 'it returns false'. Refute it at one input. -/
def vaultSickWrong : ChangeSpec := { name := "vaultSick", fn := fun _ => fun
  | [d1, d2, d3, d4] => { results := [.lit (.bool false)], args := [d1, d2, d3, d4] }
  | _ => none }
def VaultSickWrongFalsely : Prop := vaultSickRow.holds Tryz.pinned (OpenSpec.ofChange vaultSickWrong)

/-- 'bondstorelaw23.VaultKeeps': WHATEVER THE INPUT: true; the input reads as it did. -/
def vaultKeepsSpec : ChangeSpec := { name := "vaultKeeps", fn := fun _ => fun
  | [d1, d2] => { results := [.lit (.bool true)], args := [d1, d2] }
  | _ => none }
def vaultKeepsRow : OpenClaim := { program := "ytnffemlgkghcfaagreatdoor", sum := "ea7bd5aa9526cffdb15e0cadc84bdfca58da168d796958a00da94885de44edd5", func := "bondstore/bondstorelaw23.VaultKeeps", spec := "vaultKeeps", inPlace := ["internal/abi.NoEscape", "internal/bytealg.MakeNoZero", "internal/bytealg.IndexByteString", "internal/bytealg.IndexString", "math/bits.Add64", "math/bits.Sub64"], unfollowed := true, recurses := true, named := ["unicode/utf8.first", "unicode/utf8.acceptRanges", "bondstore/wide.Most", "bondstore/hold.told", "internal/bytealg.MaxLen"], apart := false, laid := [("unicode/utf8.acceptRanges", laid_unicode_utf8_acceptRanges), ("bondstore/wide.Most", laid_bondstore_wide_Most), ("bondstore/hold.told", laid_bondstore_hold_told), ("unicode/utf8.first", laid_unicode_utf8_first)] }
def VaultKeepsSaid : Prop := vaultKeepsRow.holds Tryz.pinned (OpenSpec.ofChange vaultKeepsSpec)

/-- ITS FALSE NEIGHBOUR: 'it returns false'. Refute it at one input. -/
def vaultKeepsWrong : ChangeSpec := { name := "vaultKeeps", fn := fun _ => fun
  | [d1, d2] => { results := [.lit (.bool false)], args := [d1, d2] }
  | _ => none }
def VaultKeepsWrongFalsely : Prop := vaultKeepsRow.holds Tryz.pinned (OpenSpec.ofChange vaultKeepsWrong)

/- THE SECOND FORM. 'bulk': how many values and letters a reading holds, each counted each time it is reached (what is shared counts as often as it is met; a slice's spare places count too). A statement '..UptoSaid' is the law's where the arguments, and the package variables that the reading takes, are together of bulk at most 1048576: NARROWER than '..Said'. Prove '..Said' where nothing that the law and all that it calls make is longer than what came in: it says more and counts as full. Else prove '..UptoSaid'. A law counts once. -/
mutual
def uptoBulk {H : Type} : DataW H → Nat
  | .lit (.string bytes) => bytes.length + 1
  | .lit _ => 1
  | .nil => 1
  | .ptr d => uptoBulk d + 1
  | .slice elems spare => uptoBulkAll elems + uptoBulkAll spare + 1
  | .agg parts => uptoBulkAll parts + 1
  | .iface _ d => uptoBulk d + 1
  | .map entries => uptoBulkEntries entries + 1
  | .held _ => 1
def uptoBulkAll {H : Type} : List (DataW H) → Nat
  | [] => 0
  | d :: r => uptoBulk d + uptoBulkAll r
def uptoBulkEntries {H : Type} : List (Lit × DataW H) → Nat
  | [] => 0
  | x :: r => uptoBulkEntry x + uptoBulkEntries r
def uptoBulkEntry {H : Type} : Lit × DataW H → Nat
  | (.string bytes, d) => bytes.length + uptoBulk d + 1
  | (_, d) => uptoBulk d + 1
 end
def uptoSmall : (H : Type) → List (DataW H) → Bool := fun _ ds => decide (uptoBulkAll ds ≤ 1048576)
def OpenSpec.upto (s : _root_.Go.ChangeSpec) : _root_.Go.OpenSpec := { _root_.Go.OpenSpec.ofChange s with cond := some uptoSmall }

/-- 'bondstorelaw23.VaultRoom', WHERE WHAT IT READS IS OF BULK AT MOST 1048576: true; the input reads as it did. -/
def vaultRoomUptoRow : OpenClaim := { program := "ytnffemlgkghcfaagreatdoor", sum := "ea7bd5aa9526cffdb15e0cadc84bdfca58da168d796958a00da94885de44edd5", func := "bondstore/bondstorelaw23.VaultRoom", spec := "vaultRoom", inPlace := ["internal/abi.NoEscape", "internal/bytealg.MakeNoZero", "internal/bytealg.IndexByteString", "internal/bytealg.IndexString", "math/bits.Add64", "math/bits.Sub64"], unfollowed := true, recurses := true, named := ["unicode/utf8.first", "unicode/utf8.acceptRanges", "bondstore/wide.Most", "bondstore/hold.told", "internal/bytealg.MaxLen"], apart := false, laid := [("unicode/utf8.acceptRanges", laid_unicode_utf8_acceptRanges), ("bondstore/wide.Most", laid_bondstore_wide_Most), ("bondstore/hold.told", laid_bondstore_hold_told), ("unicode/utf8.first", laid_unicode_utf8_first)], narrowed := true }
def VaultRoomUptoSaid : Prop := vaultRoomUptoRow.holds Tryz.pinned (OpenSpec.upto vaultRoomSpec)

/-- 'bondstorelaw23.VaultSaves', WHERE WHAT IT READS IS OF BULK AT MOST 1048576: true; the input reads as it did. -/
def vaultSavesUptoRow : OpenClaim := { program := "ytnffemlgkghcfaagreatdoor", sum := "ea7bd5aa9526cffdb15e0cadc84bdfca58da168d796958a00da94885de44edd5", func := "bondstore/bondstorelaw23.VaultSaves", spec := "vaultSaves", inPlace := ["internal/abi.NoEscape", "internal/bytealg.MakeNoZero", "internal/bytealg.IndexByteString", "internal/bytealg.IndexString", "math/bits.Add64", "math/bits.Sub64"], unfollowed := true, recurses := true, named := ["unicode/utf8.first", "unicode/utf8.acceptRanges", "bondstore/wide.Most", "bondstore/hold.told", "internal/bytealg.MaxLen"], apart := false, laid := [("unicode/utf8.acceptRanges", laid_unicode_utf8_acceptRanges), ("bondstore/wide.Most", laid_bondstore_wide_Most), ("bondstore/hold.told", laid_bondstore_hold_told), ("unicode/utf8.first", laid_unicode_utf8_first)], narrowed := true }
def VaultSavesUptoSaid : Prop := vaultSavesUptoRow.holds Tryz.pinned (OpenSpec.upto vaultSavesSpec)

/-- 'bondstorelaw23.VaultSick', WHERE WHAT IT READS IS OF BULK AT MOST 1048576: true; the input reads as it did. -/
def vaultSickUptoRow : OpenClaim := { program := "ytnffemlgkghcfaagreatdoor", sum := "ea7bd5aa9526cffdb15e0cadc84bdfca58da168d796958a00da94885de44edd5", func := "bondstore/bondstorelaw23.VaultSick", spec := "vaultSick", inPlace := ["internal/abi.NoEscape", "internal/bytealg.MakeNoZero", "internal/bytealg.IndexByteString", "internal/bytealg.IndexString", "math/bits.Add64", "math/bits.Sub64"], unfollowed := true, recurses := true, named := ["unicode/utf8.first", "unicode/utf8.acceptRanges", "bondstore/wide.Most", "bondstore/hold.told", "internal/bytealg.MaxLen"], apart := false, laid := [("unicode/utf8.acceptRanges", laid_unicode_utf8_acceptRanges), ("bondstore/wide.Most", laid_bondstore_wide_Most), ("bondstore/hold.told", laid_bondstore_hold_told), ("unicode/utf8.first", laid_unicode_utf8_first)], narrowed := true }
def VaultSickUptoSaid : Prop := vaultSickUptoRow.holds Tryz.pinned (OpenSpec.upto vaultSickSpec)

/-- 'bondstorelaw23.VaultKeeps', WHERE WHAT IT READS IS OF BULK AT MOST 1048576: true; the input reads as it did. -/
def vaultKeepsUptoRow : OpenClaim := { program := "ytnffemlgkghcfaagreatdoor", sum := "ea7bd5aa9526cffdb15e0cadc84bdfca58da168d796958a00da94885de44edd5", func := "bondstore/bondstorelaw23.VaultKeeps", spec := "vaultKeeps", inPlace := ["internal/abi.NoEscape", "internal/bytealg.MakeNoZero", "internal/bytealg.IndexByteString", "internal/bytealg.IndexString", "math/bits.Add64", "math/bits.Sub64"], unfollowed := true, recurses := true, named := ["unicode/utf8.first", "unicode/utf8.acceptRanges", "bondstore/wide.Most", "bondstore/hold.told", "internal/bytealg.MaxLen"], apart := false, laid := [("unicode/utf8.acceptRanges", laid_unicode_utf8_acceptRanges), ("bondstore/wide.Most", laid_bondstore_wide_Most), ("bondstore/hold.told", laid_bondstore_hold_told), ("unicode/utf8.first", laid_unicode_utf8_first)], narrowed := true }
def VaultKeepsUptoSaid : Prop := vaultKeepsUptoRow.holds Tryz.pinned (OpenSpec.upto vaultKeepsSpec)

end Rows
end Go.Proofs.YtnffemlgkghcfaaGreatDoor
