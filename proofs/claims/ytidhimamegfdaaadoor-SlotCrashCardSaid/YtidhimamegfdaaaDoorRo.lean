/- Slices that came in: read alone. -/
import Derived.Test.YtidhimamegfdaaaDoorPlat4
namespace Go.Sep
open Go.Den Go.RowKit Go.Prog Go.Plat
set_option linter.unusedSimpArgs false
set_option linter.unusedVariables false

/-- The slice (b, n, _), of elements of 'e' cells, holds 'xs' in the baseline world. -/
def Ro (W : World) (b : Option Addr) (n e : Nat) (xs : List Value) : Prop :=
  xs.length = n * e ∧ (b = none → n = 0) ∧ ∀ a, b = some a → ∀ j v, xs[j]? = some v → W.cell? (a.add j) = some v

theorem add_block (a : Addr) (n : Nat) : (a.add n).block = a.block := by unfold Addr.add; split <;> rfl
theorem add_add (a : Addr) (m n : Nat) : (a.add m).add n = a.add (m + n) := by
  unfold Addr.add
  by_cases h1 : m = 0
  · subst h1; simp
  · by_cases h2 : n = 0
    · subst h2; simp [h1]
    · rw [if_neg h1, if_neg h2, if_neg (by omega)]; simp; omega

section
variable {W w : World} {L : List HP} {b : Option Addr} {n e : Nat} {xs : List Value}

theorem cell_lt {W : World} {a : Addr} {v : Value} (h : W.cell? a = some v) : a.block < W.heap.size := by
  unfold World.cell? at h
  cases hb : W.heap[a.block]? with
  | none => simp [hb] at h
  | some x => exact (Array.getElem?_eq_some_iff.1 hb).1

theorem St.old (h : St W w L) {a : Addr} (ha : a.block < W.heap.size) : w.cell? a = W.cell? a := h.1.cell ha

theorem ixs_ro {i : Int} {K : Addr → WK} (hr : Ro W b n e xs) (hi : 0 ≤ i ∧ i < n) (hK : ∀ a, b = some a → K (a.add (i.toNat * e)) w) : ixs b n i e K w := by
  cases b with
  | none => have := hr.2.1 rfl; omega
  | some a => exact ⟨a, rfl, hi, hK a rfl⟩

theorem Ro.cell (hr : Ro W b n e xs) {a : Addr} (hb : b = some a) (h : St W w L) {j : Nat} {v : Value} (hv : xs[j]? = some v) : w.cell? (a.add j) = some v := by
  have h2 := hr.2.2 a hb j v hv
  rw [h.old (cell_lt h2)]; exact h2

theorem ld_ro {a : Addr} {j : Nat} {v : Value} {K : VK} (h : St W w L) (hr : Ro W b n e xs) (hb : b = some a) (hv : xs[j]? = some v) (hK : K v w) : ld (a.add j) K w := ⟨v, hr.cell hb h hv, hK⟩

theorem Holds_ro {a : Addr} {o : Nat} {ys : List Value} (h : St W w L) (hr : Ro W b n e xs) (hb : b = some a) (hx : ∀ j v, ys[j]? = some v → xs[o + j]? = some v) : Holds w (a.add o) ys := fun j v hj => by
  rw [add_add]; exact hr.cell hb h (hx j v hj)

theorem ldN_ro {a : Addr} {o m : Nat} {ys : List Value} {K : List Value → WK} (h : St W w L) (hr : Ro W b n e xs) (hb : b = some a) (hl : ys.length = m) (hx : ∀ j v, ys[j]? = some v → xs[o + j]? = some v) (hK : K ys w) : ldN (a.add o) m K w :=
  ⟨ys, hl, Holds_ro h hr hb hx, hK⟩
end

theorem kp_own1 {W w : World} {L : List HP} {k n c e : Nat} {xs : List Value} {r o : Nat} {v : Value} {K : WK} (h : St W w L) (hk : L[k]? = some (own (some ⟨r, 0, none⟩) n c e xs)) (hv : xs[o]? = some v) (hK : K w) : kp ⟨r, o, none⟩ [v] K w :=
  ⟨Holds_own h hk fun j u hj => (by
    cases j with
    | zero => simp at hj; subst hj; exact hv
    | succ j => simp at hj), hK⟩

theorem strEq_iff (x y : ByteArray) : strEq x y = decide (x = y) := by
  unfold strEq
  by_cases h : x = y
  · subst h; simp
  · have : x.toList ≠ y.toList := by
      rw [ByteArray.toList_eq, ByteArray.toList_eq]
      intro he
      exact h (ByteArray.ext (Array.ext' he))
    simp [h, this]

end Go.Sep
