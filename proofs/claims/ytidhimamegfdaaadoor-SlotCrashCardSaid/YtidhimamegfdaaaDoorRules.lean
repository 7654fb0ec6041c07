/- Rules for the primitives, over what is owned. -/
import Derived.Test.YtidhimamegfdaaaDoorSep
namespace Go.Sep
set_option linter.unusedSimpArgs false
set_option linter.unusedVariables false
open Go.Den Go.RowKit

section
variable {w : World}
theorem xI_eq (k : IntKind) (K : Int → WK) (n : Int) (w : World) : xI k K (.int k n) w = K n w := by
  simp [xI]
theorem xB_eq (K : Bool → WK) (b : Bool) (w : World) : xB K (.bool b) w = K b w := by simp [xB]
theorem xS_eq (K : ByteArray → WK) (s : ByteArray) (w : World) : xS K (.string s) w = K s w := by simp [xS]
theorem xP_eq (K : Option Addr → WK) (p : Option Addr) (w : World) : xP K (.pointer p) w = K p w := by simp [xP]
theorem xL_eq (K : Option Addr → Nat → Nat → WK) (b : Option Addr) (n c : Nat) (w : World) : xL K (.slice b n c) w = K b n c w :=
  propext ⟨fun ⟨_, _, _, h, hk⟩ => by cases h; exact hk, fun h => ⟨_, _, _, rfl, h⟩⟩
theorem xA_eq (n : Nat) (K : List Value → WK) (cs : List Value) (w : World) : xA n K (.agg ⟨cs⟩) w = (cs.length = n ∧ K cs w) := by
  simp [xA]
theorem x0_eq (K : WK) (w : World) : x0 K (.tuple ⟨[]⟩) w = K w := by simp [x0]
theorem x2_eq (K : Value → Value → WK) (a b : Value) (w : World) : x2 K (.tuple ⟨[a, b]⟩) w = K a b w :=
  propext ⟨fun ⟨_, _, h, hk⟩ => by cases h; exact hk, fun h => ⟨_, _, rfl, h⟩⟩
theorem x3_eq (K : Value → Value → Value → WK) (a b c : Value) (w : World) : x3 K (.tuple ⟨[a, b, c]⟩) w = K a b c w :=
  propext ⟨fun ⟨_, _, _, h, hk⟩ => by cases h; exact hk, fun h => ⟨_, _, _, rfl, h⟩⟩
theorem br_true (X Y : WK) : br true X Y = X := rfl
theorem br_false (X Y : WK) : br false X Y = Y := rfl
theorem nn_some (a : Addr) (K : Addr → WK) : nn (some a) K = K a := rfl
theorem chk_eq (p : Prop) (K : WK) (w : World) : chk p K w = (p ∧ K w) := rfl
theorem tick_eq (K : WK) (w : World) : tick K w = K w.drew := rfl
theorem add_mk (b o n : Nat) : (⟨b, o, none⟩ : Addr).add n = ⟨b, o + n, none⟩ := by
  unfold Addr.add; split
  · rename_i h; subst h; rfl
  · rfl
theorem br_of {b : Bool} {X Y : WK} (h1 : b = true → X w) (h2 : b = false → Y w) : br b X Y w := by
  cases b with
  | true => exact h1 rfl
  | false => exact h2 rfl
theorem br_dec {p : Prop} [Decidable p] {X Y : WK} (h1 : p → X w) (h2 : ¬ p → Y w) : br (decide p) X Y w :=
  br_of (fun h => h1 (of_decide_eq_true h)) (fun h => h2 (of_decide_eq_false h))
theorem br_not {b : Bool} {X Y : WK} (h : br b Y X w) : br (!b) X Y w := by cases b <;> exact h
theorem br_eq {x y : Int} {X Y : WK} (h1 : x = y → X w) (h2 : x ≠ y → Y w) : br (x == y) X Y w :=
  br_of (fun h => h1 (by simpa using h)) (fun h => h2 (by simpa using h))
theorem br_ne {x y : Int} {X Y : WK} (h1 : x ≠ y → X w) (h2 : x = y → Y w) : br (x != y) X Y w :=
  br_of (fun h => h1 (by simpa using h)) (fun h => h2 (by simpa using h))
end

section
variable {W w : World} {L : List HP} {k : Nat}

theorem ld_of {a : Addr} {v : Value} {K : VK} (h : w.cell? a = some v) (hk : K v w) : ld a K w := ⟨v, h, hk⟩

theorem ld_pt {b o : Nat} {cs : List Value} {v : Value} {K : VK} (h : St W w L) (hk : L[k]? = some (pt b cs)) (hv : cs[o]? = some v) (hK : K v w) : ld ⟨b, o, none⟩ K w :=
  ⟨v, by rw [(h.cell hk).1, hv], hK⟩

theorem st_pt {b o : Nat} {cs : List Value} {v : Value} {K : WK} (h : St W w L) (hk : L[k]? = some (pt b cs)) (ho : o < cs.length) (h1 : v.oneCell' = true)
    (hK : ∀ w', St W w' (L.set k (pt b (cs.set o v))) → K w') : st ⟨b, o, none⟩ v K w := by
  obtain ⟨h2, h3, _⟩ := h.cell (o := o) hk
  exact ⟨h1, ⟨cs[o], by rw [h2]; simp [ho]⟩, h3 ho, hK _ (h.set v hk)⟩

theorem mk_of {cs : List Value} {K : Nat → WK} (h : St W w L) (hK : ∀ r w', St W w' (pt r cs :: L) → K r w') : mk cs K w := fun t => hK _ _ (h.new cs t)

theorem tick_of {K : WK} (h : St W w L) (hK : ∀ w', St W w' L → K w') : tick K w := hK _ h.drew

theorem Holds_pt {b o : Nat} {cs xs : List Value} (h : St W w L) (hk : L[k]? = some (pt b cs)) (hx : ∀ j v, xs[j]? = some v → cs[o + j]? = some v) : Holds w ⟨b, o, none⟩ xs := fun j v hj => by
  rw [add_mk, (h.cell hk).1]; exact hx j v hj

theorem kp_pt {b o : Nat} {cs xs : List Value} {K : WK} (h : St W w L) (hk : L[k]? = some (pt b cs)) (hx : ∀ j v, xs[j]? = some v → cs[o + j]? = some v) (hK : K w) : kp ⟨b, o, none⟩ xs K w :=
  ⟨Holds_pt h hk hx, hK⟩

theorem kp_one {b o : Nat} {cs : List Value} {v : Value} {K : WK} (h : St W w L) (hk : L[k]? = some (pt b cs)) (hx : cs[o]? = some v) (hK : K w) : kp ⟨b, o, none⟩ [v] K w :=
  kp_pt h hk (fun j u hj => by
    cases j with
    | zero => simp at hj; subst hj; exact hx
    | succ j => simp at hj) hK

theorem ldN_pt {b o n : Nat} {cs xs : List Value} {K : List Value → WK} (h : St W w L) (hk : L[k]? = some (pt b cs)) (hl : xs.length = n) (hx : ∀ j v, xs[j]? = some v → cs[o + j]? = some v) (hK : K xs w) : ldN ⟨b, o, none⟩ n K w :=
  ⟨xs, hl, Holds_pt h hk hx, hK⟩

/-- 'cs' with 'xs' laid over it from 'o' on. -/
def over (cs : List Value) (o : Nat) (xs : List Value) : List Value := cs.take o ++ xs ++ cs.drop (o + xs.length)

theorem over_length {cs : List Value} {o : Nat} {xs : List Value} (h : o + xs.length ≤ cs.length) : (over cs o xs).length = cs.length := by
  simp [over]; omega

theorem over_get {cs : List Value} {o : Nat} {xs : List Value} (h : o + xs.length ≤ cs.length) (j : Nat) : (over cs o xs)[j]? = if j < o then cs[j]? else if j < o + xs.length then xs[j - o]? else cs[j]? := by
  unfold over
  rw [List.append_assoc]
  by_cases h1 : j < o
  · rw [if_pos h1, List.getElem?_append_left (by simp; omega), List.getElem?_take_of_lt h1]
  · rw [if_neg h1, List.getElem?_append_right (by simp; omega)]
    have e : (cs.take o).length = o := by simp; omega
    rw [e]
    by_cases h2 : j < o + xs.length
    · rw [if_pos h2, List.getElem?_append_left (by omega)]
    · rw [if_neg h2, List.getElem?_append_right (by omega), List.getElem?_drop]
      congr 1; omega

theorem over_set {cs : List Value} {o : Nat} {v : Value} {xs : List Value} (h : o + (xs.length + 1) ≤ cs.length) : over (cs.set o v) (o + 1) xs = over cs o (v :: xs) := by
  apply List.ext_getElem?
  intro j
  rw [over_get (by simp; omega), over_get (by simpa using h)]
  by_cases h1 : j < o
  · rw [if_pos (by omega), if_pos h1, List.getElem?_set_ne (by omega)]
  · by_cases h2 : j = o
    · subst h2
      rw [if_pos (by omega), if_neg (by omega), if_pos (by simp)]
      have : j < cs.length := by omega
      simp [this]
    · rw [if_neg (by omega), if_neg h1]
      by_cases h3 : j < o + (xs.length + 1)
      · rw [if_pos (by omega), if_pos (by simpa using h3)]
        obtain ⟨m, rfl⟩ : ∃ m, j = o + 1 + m := ⟨j - (o + 1), by omega⟩
        rw [show o + 1 + m - o = m + 1 from by omega, show o + 1 + m - (o + 1) = m from by omega]
        rfl
      · rw [if_neg (by omega), if_neg (by simpa using h3), List.getElem?_set_ne (by omega)]

theorem set_same {α : Type} : ∀ {L : List α} {k : Nat} {A : α}, L[k]? = some A → L.set k A = L
  | [], k, A, h => by simp at h
  | B :: L, 0, A, h => by simp at h; subst h; rfl
  | B :: L, k + 1, A, h => by simp only [List.getElem?_cons_succ] at h; simp only [List.set_cons_succ, set_same h]

theorem St.setL : ∀ (xs : List Value) {w : World} {L : List HP} {b : Nat} (o i : Nat) {cs : List Value}, St W w L → L[k]? = some (pt b cs) → o + i + xs.length ≤ cs.length → (∀ v ∈ xs, v.oneCell' = true) →
    CanSet w ⟨b, o, none⟩ i xs ∧ St W (Den.setL w ⟨b, o, none⟩ i xs) (L.set k (pt b (over cs (o + i) xs)))
  | [], w, L, b, o, i, cs, h, hk, hl, h1 => by
    refine ⟨⟨by simp, by simp⟩, ?_⟩
    have : over cs (o + i) [] = cs := by simp [over]
    rw [this, set_same hk]
    exact h
  | v :: xs, w, L, b, o, i, cs, h, hk, hl, h1 => by
    have hk' : (L.set k (pt b (cs.set (o + i) v)))[k]? = some (pt b (cs.set (o + i) v)) := by
      have := (List.getElem?_eq_some_iff.1 hk).1
      simp [this]
    have h2 := h.set (o := o + i) v hk
    obtain ⟨hc, hs⟩ := St.setL xs o (i + 1) h2 hk' (by simp at hl ⊢; omega) (fun u hu => h1 u (by simp [hu]))
    refine ⟨⟨h1, fun j hj => ?_⟩, ?_⟩
    · rw [add_mk]
      obtain ⟨g1, g2, _⟩ := h.cell (o := o + (i + j)) hk
      simp only [List.length_cons] at hl hj
      have hlt : o + (i + j) < cs.length := by omega
      exact ⟨⟨cs[o + (i + j)], by rw [g1]; simp [hlt]⟩, g2 hlt⟩
    · simp only [Den.setL]
      rw [add_mk, List.set_set] at *
      have e := over_set (cs := cs) (o := o + i) (v := v) (xs := xs) (by simp at hl; omega)
      rw [show o + (i + 1) = o + i + 1 from by omega, e] at hs
      exact hs

theorem stN_pt {b o : Nat} {cs xs : List Value} {K : WK} (h : St W w L) (hk : L[k]? = some (pt b cs)) (hl : o + xs.length ≤ cs.length) (h1 : ∀ v ∈ xs, v.oneCell' = true)
    (hK : ∀ w', St W w' (L.set k (pt b (over cs o xs))) → K w') : stN ⟨b, o, none⟩ xs K w := by
  obtain ⟨hc, hs⟩ := St.setL xs o 0 h hk (by omega) h1
  exact ⟨hc, hK _ hs⟩

end
end Go.Sep
