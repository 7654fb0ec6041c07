/- A slice that came in has no less room than elements. -/
import Derived.Test.YtidhimamegfdaaaDoorLaA
namespace Go.Sep
set_option linter.unusedSimpArgs false
set_option linter.unusedVariables false
open Go.Den Go.RowKit
section
variable {H : Type} {enc : TypeId × Value → H} {P : Program} {w : World} {base : Nat} {spare : Nat → Bool} {held : Bool}
theorem open_cap {t e : TypeId} {b : Option Addr} {n c : Nat} {d : DataW H} {ps : List MemPlace} (ht : P.underlying t = some (.slice e)) (hd : DataW.Trod enc P w base spare held t (.slice b n c) d ps) : n ≤ c := by
  obtain ⟨m, hm⟩ := hd
  rcases Go.Deep.open_slice ht hm with ⟨hcs, hx⟩ | ⟨a, len, cap, k, n', D, Pl, hcs, hb, hl, hmx, hk, hx, hcell⟩
  · simp [Value.cells] at hcs
    obtain ⟨rfl, rfl, rfl⟩ := hcs
    exact Nat.le_refl _
  · simp [Value.cells] at hcs
    obtain ⟨rfl, rfl, rfl⟩ := hcs
    exact hl
end
end Go.Sep
