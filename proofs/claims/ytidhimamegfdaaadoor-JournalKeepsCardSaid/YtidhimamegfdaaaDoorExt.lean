/- Transformers typed by hand: functions of the library, by the shelf's contracts. -/
import Derived.Test.YtidhimamegfdaaaDoorDenB
import Derived.Below
namespace Go.Prog
set_option linter.unusedSimpArgs false
set_option linter.unusedVariables false
open Go.Den Go.RowKit

def repL (l : List UInt8) : Nat → List UInt8
  | 0 => []
  | n + 1 => l ++ repL l n

/-- strings.Repeat, where it doesn't panic, and its text isn't too long. -/
def strings_Repeat (s : ByteArray) (n : Int) (K : VK) : WK := fun w =>
  (0 ≤ n ∧ s.size * n.toNat ≤ 140737488355328 ∧ n ≤ 9223372036854775807) ∧ ∀ w', Below w.heap.size w w' → K (.string ⟨(repL s.data.toList n.toNat).toArray⟩) w'
def strings_Repeat.u : WP := fun args K => match args with | [.string s, .int .i64 n] => strings_Repeat s n K | _ => no

end Go.Prog
