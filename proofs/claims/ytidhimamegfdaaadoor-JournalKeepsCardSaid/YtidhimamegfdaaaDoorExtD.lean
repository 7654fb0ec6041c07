/- Transformers typed by hand: the library's builder, by the shelf's contracts. -/
import Derived.Test.YtidhimamegfdaaaDoorExt
import Derived.Test.YtidhimamegfdaaaDoorTy
import Derived.Lib.Builder
import Derived.Lib.UnsafeStr
namespace Go.Prog
set_option linter.unusedSimpArgs false
set_option linter.unusedVariables false
open Go.Den Go.RowKit

/-- A builder in block 'b' that holds bytes; nothing of it lies below 'B'. -/
def isB (B b : Nat) (l : List UInt8) (w : World) : Prop := Go.Lib.IsBuilder tyB tyU8 B b (Go.Lib.byteCells l) w

def strings_Builder_WriteString (p : Option Addr) (s : ByteArray) (K : VK) : WK := fun w => ∃ B b l, p = some ⟨b, 0, none⟩ ∧ isB B b l w ∧ l.length + s.size ≤ 140737488355328 ∧ B ≤ w.heap.size ∧
  ∀ w', isB B b (l ++ s.data.toList) w' → Below B w w' → K (.tuple ⟨[.int .i64 s.size, .nilIface]⟩) w'
def strings_Builder_WriteString.u : WP := fun args K => match args with | [.pointer p, .string s] => strings_Builder_WriteString p s K | _ => no

def strings_Builder_String (p : Option Addr) (K : VK) : WK := fun w => ∃ B b l, p = some ⟨b, 0, none⟩ ∧ isB B b l w ∧ B ≤ w.heap.size ∧ ∀ w', Below B w w' → K (.string ⟨l.toArray⟩) w'
def strings_Builder_String.u : WP := fun args K => match args with | [.pointer p] => strings_Builder_String p K | _ => no
end Go.Prog
