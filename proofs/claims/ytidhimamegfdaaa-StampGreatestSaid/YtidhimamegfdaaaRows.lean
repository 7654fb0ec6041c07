/-
  No cell of these rows narrows 'for every input' (looked for: loops, veiled, ifaces, maps, wideKeys, modest, calm, conditions, laid).
  DERIVED. THE GIVEN ROWS OF THIS SEAT. 7 by the template 'for every input the law returns true; each argument reads behind the call as it read before'; 0 by the template 'total and deterministic' (their statements: YtidhimamegfdaaaTotals.lean).
  GIVEN WITH THE SEED: the statements are not yours to turn. If you find one false, say at which input.
  Laid BY PROGRAM, IN A SANDBOX (cutbox-rows.mjs): the forced cells as the released guide's own fill.sh prints them over the translation 23a45bb39d2ea624… (all of the seat's roots in one cut). By AI agents, Wed Nov 11 2026. No macro, syntax, notation, axiom, sorry.
-/
import Derived.Test.YtidhimamegfdaaaChecked
import GoSem.Claim
import GoSem.ClaimJoined
import GoSem.ClaimMapViews
import Derived.JoinedTies
import Derived.KernelRfl
namespace Go.Proofs.Ytidhimamegfdaaa
/- THE CELL 'sum', in the pinned program and in every row, IS THE sha256 OF THE DUMP (.gsa) THAT YtidhimamegfdaaaProg.lean LOADS. Nothing in Lean hashes anything: it is a label: what it is worth is what the hold of that sum in a sandbox is worth. -/
noncomputable def Try.pinned : Pinned := { name := "ytidhimamegfdaaa", sum := "23a45bb39d2ea6242d226a4012f4620527510f750420de4d17dfb87228734c61", checked := Try.checked }
namespace Rows
def none {H : Type} : Left H := { results := [], args := [] }

/-- 'bondstorelaw04.PlatterTorn': WHATEVER THE INPUT: true; the input reads as it did. -/
def platterTornSpec : ChangeSpec := { name := "platterTorn", fn := fun _ => fun
  | [d1, d2, d3, d4, d5] => { results := [.lit (.bool true)], args := [d1, d2, d3, d4, d5] }
  | _ => none }
def platterTornRow : OpenClaim := { program := "ytidhimamegfdaaa", sum := "23a45bb39d2ea6242d226a4012f4620527510f750420de4d17dfb87228734c61", func := "bondstore/bondstorelaw04.PlatterTorn", spec := "platterTorn", inPlace := ["internal/abi.NoEscape", "internal/bytealg.MakeNoZero"], apart := false }
def PlatterTornSaid : Prop := platterTornRow.holds Try.pinned (OpenSpec.ofChange platterTornSpec)

/-- ITS FALSE NEIGHBOUR: 'it returns false'. Refute it at one input. -/
def platterTornWrong : ChangeSpec := { name := "platterTorn", fn := fun _ => fun
  | [d1, d2, d3, d4, d5] => { results := [.lit (.bool false)], args := [d1, d2, d3, d4, d5] }
  | _ => none }
def PlatterTornWrongFalsely : Prop := platterTornRow.holds Try.pinned (OpenSpec.ofChange platterTornWrong)

/-- 'bondstorelaw04.PlatterApart': WHATEVER THE INPUT: true; the input reads as it did. -/
def platterApartSpec : ChangeSpec := { name := "platterApart", fn := fun _ => fun
  | [d1, d2, d3] => { results := [.lit (.bool true)], args := [d1, d2, d3] }
  | _ => none }
def platterApartRow : OpenClaim := { program := "ytidhimamegfdaaa", sum := "23a45bb39d2ea6242d226a4012f4620527510f750420de4d17dfb87228734c61", func := "bondstore/bondstorelaw04.PlatterApart", spec := "platterApart", inPlace := ["internal/abi.NoEscape", "internal/bytealg.MakeNoZero"], apart := false }
def PlatterApartSaid : Prop := platterApartRow.holds Try.pinned (OpenSpec.ofChange platterApartSpec)

/-- ITS FALSE NEIGHBOUR: 'it returns false'. Refute it at one input. -/
def platterApartWrong : ChangeSpec := { name := "platterApart", fn := fun _ => fun
  | [d1, d2, d3] => { results := [.lit (.bool false)], args := [d1, d2, d3] }
  | _ => none }
def PlatterApartWrongFalsely : Prop := platterApartRow.holds Try.pinned (OpenSpec.ofChange platterApartWrong)

/-- 'bondstorelaw04.PlatterLasts': WHATEVER THE INPUT: true; the input reads as it did. -/
def platterLastsSpec : ChangeSpec := { name := "platterLasts", fn := fun _ => fun
  | [d1, d2, d3, d4, d5, d6] => { results := [.lit (.bool true)], args := [d1, d2, d3, d4, d5, d6] }
  | _ => none }
def platterLastsRow : OpenClaim := { program := "ytidhimamegfdaaa", sum := "23a45bb39d2ea6242d226a4012f4620527510f750420de4d17dfb87228734c61", func := "bondstore/bondstorelaw04.PlatterLasts", spec := "platterLasts", inPlace := ["internal/abi.NoEscape", "internal/bytealg.MakeNoZero"], apart := false }
def PlatterLastsSaid : Prop := platterLastsRow.holds Try.pinned (OpenSpec.ofChange platterLastsSpec)

/-- ITS FALSE NEIGHBOUR: 'it returns false'. Refute it at one input. -/
def platterLastsWrong : ChangeSpec := { name := "platterLasts", fn := fun _ => fun
  | [d1, d2, d3, d4, d5, d6] => { results := [.lit (.bool false)], args := [d1, d2, d3, d4, d5, d6] }
  | _ => none }
def PlatterLastsWrongFalsely : Prop := platterLastsRow.holds Try.pinned (OpenSpec.ofChange platterLastsWrong)

/-- 'bondstorelaw04.PlatterFails': WHATEVER THE INPUT: true; the input reads as it did. -/
def platterFailsSpec : ChangeSpec := { name := "platterFails", fn := fun _ => fun
  | [d1, d2, d3] => { results := [.lit (.bool true)], args := [d1, d2, d3] }
  | _ => none }
def platterFailsRow : OpenClaim := { program := "ytidhimamegfdaaa", sum := "23a45bb39d2ea6242d226a4012f4620527510f750420de4d17dfb87228734c61", func := "bondstore/bondstorelaw04.PlatterFails", spec := "platterFails", inPlace := ["internal/abi.NoEscape", "internal/bytealg.MakeNoZero"], apart := false }
def PlatterFailsSaid : Prop := platterFailsRow.holds Try.pinned (OpenSpec.ofChange platterFailsSpec)

/-- ITS FALSE NEIGHBOUR: 'it returns false'. Refute it at one input. -/
def platterFailsWrong : ChangeSpec := { name := "platterFails", fn := fun _ => fun
  | [d1, d2, d3] => { results := [.lit (.bool false)], args := [d1, d2, d3] }
  | _ => none }
def PlatterFailsWrongFalsely : Prop := platterFailsRow.holds Try.pinned (OpenSpec.ofChange platterFailsWrong)

/-- 'bondstorelaw04.PlatterDoes': WHATEVER THE INPUT: true; the input reads as it did. -/
def platterDoesSpec : ChangeSpec := { name := "platterDoes", fn := fun _ => fun
  | [d1, d2] => { results := [.lit (.bool true)], args := [d1, d2] }
  | _ => none }
def platterDoesRow : OpenClaim := { program := "ytidhimamegfdaaa", sum := "23a45bb39d2ea6242d226a4012f4620527510f750420de4d17dfb87228734c61", func := "bondstore/bondstorelaw04.PlatterDoes", spec := "platterDoes", inPlace := ["internal/abi.NoEscape", "internal/bytealg.MakeNoZero"], apart := false }
def PlatterDoesSaid : Prop := platterDoesRow.holds Try.pinned (OpenSpec.ofChange platterDoesSpec)

/-- ITS FALSE NEIGHBOUR: 'it returns false'. Refute it at one input. -/
def platterDoesWrong : ChangeSpec := { name := "platterDoes", fn := fun _ => fun
  | [d1, d2] => { results := [.lit (.bool false)], args := [d1, d2] }
  | _ => none }
def PlatterDoesWrongFalsely : Prop := platterDoesRow.holds Try.pinned (OpenSpec.ofChange platterDoesWrong)

/-- 'bondstorelaw05.StampRoom': WHATEVER THE INPUT: true; the input reads as it did. -/
def stampRoomSpec : ChangeSpec := { name := "stampRoom", fn := fun _ => fun
  | [d1, d2, d3] => { results := [.lit (.bool true)], args := [d1, d2, d3] }
  | _ => none }
def stampRoomRow : OpenClaim := { program := "ytidhimamegfdaaa", sum := "23a45bb39d2ea6242d226a4012f4620527510f750420de4d17dfb87228734c61", func := "bondstore/bondstorelaw05.StampRoom", spec := "stampRoom", inPlace := ["internal/abi.NoEscape", "internal/bytealg.MakeNoZero"], apart := false }
def StampRoomSaid : Prop := stampRoomRow.holds Try.pinned (OpenSpec.ofChange stampRoomSpec)

/-- ITS FALSE NEIGHBOUR: 'it returns false'. Refute it at one input. -/
def stampRoomWrong : ChangeSpec := { name := "stampRoom", fn := fun _ => fun
  | [d1, d2, d3] => { results := [.lit (.bool false)], args := [d1, d2, d3] }
  | _ => none }
def StampRoomWrongFalsely : Prop := stampRoomRow.holds Try.pinned (OpenSpec.ofChange stampRoomWrong)

/-- 'bondstorelaw05.StampGreatest': WHATEVER THE INPUT: true; the input reads as it did. -/
def stampGreatestSpec : ChangeSpec := { name := "stampGreatest", fn := fun _ => fun
  | [d] => { results := [.lit (.bool true)], args := [d] }
  | _ => none }
def stampGreatestRow : OpenClaim := { program := "ytidhimamegfdaaa", sum := "23a45bb39d2ea6242d226a4012f4620527510f750420de4d17dfb87228734c61", func := "bondstore/bondstorelaw05.StampGreatest", spec := "stampGreatest", inPlace := ["internal/abi.NoEscape", "internal/bytealg.MakeNoZero"], apart := false }
def StampGreatestSaid : Prop := stampGreatestRow.holds Try.pinned (OpenSpec.ofChange stampGreatestSpec)

/-- ITS FALSE NEIGHBOUR: 'it returns false'. Refute it at one input. -/
def stampGreatestWrong : ChangeSpec := { name := "stampGreatest", fn := fun _ => fun
  | [d] => { results := [.lit (.bool false)], args := [d] }
  | _ => none }
def StampGreatestWrongFalsely : Prop := stampGreatestRow.holds Try.pinned (OpenSpec.ofChange stampGreatestWrong)

/- THE SECOND FORM. 'bulk': how many values and letters a reading holds, each counted each time it is reached (what is shared counts as often as it is met; a slice's spare places count too). A statement '..UptoSaid' is the law's where the arguments, and the package variables that the reading takes, are together of bulk at most 1048576: NARROWER than '..Said'. Prove '..Said' where nothing that the law and all that it calls make is longer than what came in: it says more and counts as full. Else prove '..UptoSaid'. A law counts once. -/
mutual
def uptoBulk {H : Type} : DataW H → Nat
  | .lit (.string bytes) => bytes.length + 1
  | .lit _ => 1
  | .nil => 1
  | .ptr d => uptoBulk d + 1
  | .slice elems spare => uptoBulkAll elems + uptoBulkAll spare + 1
  | .agg parts => uptoBulkAll parts + 1
  | .iface _ d => uptoBulk d + 1
  | .map entries => uptoBulkEntries entries + 1
  | .held _ => 1
def uptoBulkAll {H : Type} : List (DataW H) → Nat
  | [] => 0
  | d :: r => uptoBulk d + uptoBulkAll r
def uptoBulkEntries {H : Type} : List (Lit × DataW H) → Nat
  | [] => 0
  | x :: r => uptoBulkEntry x + uptoBulkEntries r
def uptoBulkEntry {H : Type} : Lit × DataW H → Nat
  | (.string bytes, d) => bytes.length + uptoBulk d + 1
  | (_, d) => uptoBulk d + 1
 end
def uptoSmall : (H : Type) → List (DataW H) → Bool := fun _ ds => decide (uptoBulkAll ds ≤ 1048576)
def OpenSpec.upto (s : _root_.Go.ChangeSpec) : _root_.Go.OpenSpec := { _root_.Go.OpenSpec.ofChange s with cond := some uptoSmall }

/-- 'bondstorelaw04.PlatterTorn', WHERE WHAT IT READS IS OF BULK AT MOST 1048576: true; the input reads as it did. -/
def platterTornUptoRow : OpenClaim := { program := "ytidhimamegfdaaa", sum := "23a45bb39d2ea6242d226a4012f4620527510f750420de4d17dfb87228734c61", func := "bondstore/bondstorelaw04.PlatterTorn", spec := "platterTorn", inPlace := ["internal/abi.NoEscape", "internal/bytealg.MakeNoZero"], apart := false, narrowed := true }
def PlatterTornUptoSaid : Prop := platterTornUptoRow.holds Try.pinned (OpenSpec.upto platterTornSpec)

/-- 'bondstorelaw04.PlatterApart', WHERE WHAT IT READS IS OF BULK AT MOST 1048576: true; the input reads as it did. -/
def platterApartUptoRow : OpenClaim := { program := "ytidhimamegfdaaa", sum := "23a45bb39d2ea6242d226a4012f4620527510f750420de4d17dfb87228734c61", func := "bondstore/bondstorelaw04.PlatterApart", spec := "platterApart", inPlace := ["internal/abi.NoEscape", "internal/bytealg.MakeNoZero"], apart := false, narrowed := true }
def PlatterApartUptoSaid : Prop := platterApartUptoRow.holds Try.pinned (OpenSpec.upto platterApartSpec)

/-- 'bondstorelaw04.PlatterLasts', WHERE WHAT IT READS IS OF BULK AT MOST 1048576: true; the input reads as it did. -/
def platterLastsUptoRow : OpenClaim := { program := "ytidhimamegfdaaa", sum := "23a45bb39d2ea6242d226a4012f4620527510f750420de4d17dfb87228734c61", func := "bondstore/bondstorelaw04.PlatterLasts", spec := "platterLasts", inPlace := ["internal/abi.NoEscape", "internal/bytealg.MakeNoZero"], apart := false, narrowed := true }
def PlatterLastsUptoSaid : Prop := platterLastsUptoRow.holds Try.pinned (OpenSpec.upto platterLastsSpec)

/-- 'bondstorelaw04.PlatterFails', WHERE WHAT IT READS IS OF BULK AT MOST 1048576: true; the input reads as it did. -/
def platterFailsUptoRow : OpenClaim := { program := "ytidhimamegfdaaa", sum := "23a45bb39d2ea6242d226a4012f4620527510f750420de4d17dfb87228734c61", func := "bondstore/bondstorelaw04.PlatterFails", spec := "platterFails", inPlace := ["internal/abi.NoEscape", "internal/bytealg.MakeNoZero"], apart := false, narrowed := true }
def PlatterFailsUptoSaid : Prop := platterFailsUptoRow.holds Try.pinned (OpenSpec.upto platterFailsSpec)

/-- 'bondstorelaw04.PlatterDoes', WHERE WHAT IT READS IS OF BULK AT MOST 1048576: true; the input reads as it did. -/
def platterDoesUptoRow : OpenClaim := { program := "ytidhimamegfdaaa", sum := "23a45bb39d2ea6242d226a4012f4620527510f750420de4d17dfb87228734c61", func := "bondstore/bondstorelaw04.PlatterDoes", spec := "platterDoes", inPlace := ["internal/abi.NoEscape", "internal/bytealg.MakeNoZero"], apart := false, narrowed := true }
def PlatterDoesUptoSaid : Prop := platterDoesUptoRow.holds Try.pinned (OpenSpec.upto platterDoesSpec)

/-- 'bondstorelaw05.StampRoom', WHERE WHAT IT READS IS OF BULK AT MOST 1048576: true; the input reads as it did. -/
def stampRoomUptoRow : OpenClaim := { program := "ytidhimamegfdaaa", sum := "23a45bb39d2ea6242d226a4012f4620527510f750420de4d17dfb87228734c61", func := "bondstore/bondstorelaw05.StampRoom", spec := "stampRoom", inPlace := ["internal/abi.NoEscape", "internal/bytealg.MakeNoZero"], apart := false, narrowed := true }
def StampRoomUptoSaid : Prop := stampRoomUptoRow.holds Try.pinned (OpenSpec.upto stampRoomSpec)

/-- 'bondstorelaw05.StampGreatest', WHERE WHAT IT READS IS OF BULK AT MOST 1048576: true; the input reads as it did. -/
def stampGreatestUptoRow : OpenClaim := { program := "ytidhimamegfdaaa", sum := "23a45bb39d2ea6242d226a4012f4620527510f750420de4d17dfb87228734c61", func := "bondstore/bondstorelaw05.StampGreatest", spec := "stampGreatest", inPlace := ["internal/abi.NoEscape", "internal/bytealg.MakeNoZero"], apart := false, narrowed := true }
def StampGreatestUptoSaid : Prop := stampGreatestUptoRow.holds Try.pinned (OpenSpec.upto stampGreatestSpec)

end Rows
end Go.Proofs.Ytidhimamegfdaaa
