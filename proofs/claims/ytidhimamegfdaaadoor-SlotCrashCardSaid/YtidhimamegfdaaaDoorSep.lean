/- A small separation logic over the model's worlds: what is owned lies above a baseline world 'W', whose blocks stay as they were. -/
import Derived.Test.YtidhimamegfdaaaDoorDen11
import Derived.Below
namespace Go.Sep
set_option linter.unusedSimpArgs false
set_option linter.unusedVariables false
open Go.Den Go.RowKit

abbrev HP := (Nat → Option (List Value)) → Prop

/-- A block's cells, if all of them may be written. -/
def view (w : World) (b : Nat) : Option (List Value) :=
  match w.heap[b]? with
  | some (.cells c _ fz) => if c.size ≤ fz.1 ∨ fz.2 = 0 then some c.toList else none
  | _ => none

def sep (A B : HP) : HP := fun h => ∃ h1 h2, (∀ b, h1 b = none ∨ h2 b = none) ∧ (∀ b, h b = (h1 b).or (h2 b)) ∧ A h1 ∧ B h2

def seps : List HP → HP
  | [] => fun _ => True
  | A :: L => sep A (seps L)

/-- Block 'b' holds the cells 'cs'. -/
def pt (b : Nat) (cs : List Value) : HP := fun h => h b = some cs

def exH {α : Type} (f : α → HP) : HP := fun h => ∃ x, f x h
def andH (p : Prop) (A : HP) : HP := fun h => p ∧ A h

def St (W w : World) (L : List HP) : Prop := Below W.heap.size W w ∧ ∃ h, seps L h ∧ ∀ b cs, h b = some cs → W.heap.size ≤ b ∧ view w b = some cs

/-! ### The list of what is owned -/

theorem sep_comm {A B : HP} {h : Nat → Option (List Value)} (x : sep A B h) : sep B A h := by
  obtain ⟨h1, h2, hd, hu, ha, hb⟩ := x
  refine ⟨h2, h1, fun b => (hd b).symm, fun b => ?_, hb, ha⟩
  rw [hu b]
  rcases hd b with h | h <;> simp [h]

theorem sep_assoc {A B C : HP} {h : Nat → Option (List Value)} (x : sep (sep A B) C h) : sep A (sep B C) h := by
  obtain ⟨h12, h3, hd, hu, ⟨h1, h2, hd', hu', ha, hb⟩, hc⟩ := x
  refine ⟨h1, fun b => (h2 b).or (h3 b), fun b => ?_, fun b => ?_, ha, h2, h3, fun b => ?_, fun b => rfl, hb, hc⟩
  · rcases hd' b with h | h
    · exact .inl h
    · rcases hd b with g | g
      · rw [hu' b, h] at g; left; simpa using g
      · right; simp [h, g]
  · rw [hu b, hu' b]; simp [Option.or_assoc]
  · rcases hd b with g | g
    · rw [hu' b] at g; simp at g; exact .inl g.2
    · exact .inr g

theorem sep_assoc' {A B C : HP} {h : Nat → Option (List Value)} (x : sep A (sep B C) h) : sep (sep A B) C h :=
  sep_comm (sep_assoc (sep_comm (sep_assoc (sep_comm x))))

theorem sep_mono {A B A' B' : HP} {h : Nat → Option (List Value)} (x : sep A B h) (ha : ∀ g, A g → A' g) (hb : ∀ g, B g → B' g) : sep A' B' h := by
  obtain ⟨h1, h2, hd, hu, a, b⟩ := x
  exact ⟨h1, h2, hd, hu, ha _ a, hb _ b⟩

theorem seps_perm {L M : List HP} (p : L.Perm M) : ∀ h, seps L h → seps M h := by
  induction p with
  | nil => exact fun h x => x
  | cons A _ ih => exact fun h x => sep_mono x (fun _ a => a) ih
  | swap A B l => exact fun h x => sep_assoc (sep_mono (sep_assoc' x) (fun _ y => sep_comm y) fun _ y => y)
  | trans _ _ ih1 ih2 => exact fun h x => ih2 h (ih1 h x)

theorem St.perm {W w : World} {L M : List HP} (h : St W w L) (p : L.Perm M) : St W w M :=
  let ⟨hb, g, hs, hv⟩ := h; ⟨hb, g, seps_perm p g hs, hv⟩

theorem getElem?_perm {α : Type} : ∀ {L : List α} {k : Nat} {A : α}, L[k]? = some A → L.Perm (A :: L.eraseIdx k)
  | [], k, A, h => by simp at h
  | B :: L, 0, A, h => by simp at h; subst h; simp
  | B :: L, k + 1, A, h => by
    simp only [List.getElem?_cons_succ] at h
    exact ((getElem?_perm h).cons B).trans (List.Perm.swap _ _ _)

theorem set_perm {α : Type} : ∀ {L : List α} {k : Nat} {A B : α}, L[k]? = some A → (B :: L.eraseIdx k).Perm (L.set k B)
  | [], k, A, B, h => by simp at h
  | C :: L, 0, A, B, h => by simp
  | C :: L, k + 1, A, B, h => by
    simp only [List.getElem?_cons_succ] at h
    exact (List.Perm.swap _ _ _).trans ((set_perm h).cons C)

theorem St.focus {W w : World} {L : List HP} {k : Nat} {A : HP} (h : St W w L) (hk : L[k]? = some A) : St W w (A :: L.eraseIdx k) := h.perm (getElem?_perm hk)
theorem St.unfocus {W w : World} {L : List HP} {k : Nat} {A B : HP} (h : St W w (B :: L.eraseIdx k)) (hk : L[k]? = some A) : St W w (L.set k B) := h.perm (set_perm hk)

/-- What is owned may be let go. -/
theorem St.drop {W w : World} {A : HP} {L : List HP} (h : St W w (A :: L)) : St W w L := by
  obtain ⟨hb, g, ⟨h1, h2, hd, hu, ha, hl⟩, hv⟩ := h
  refine ⟨hb, h2, hl, fun b cs hcs => hv b cs ?_⟩
  rw [hu b]
  rcases hd b with h | h
  · simp [h, hcs]
  · rw [h] at hcs; cases hcs

theorem St.mono {W w : World} {A B : HP} {L : List HP} (h : St W w (A :: L)) (hab : ∀ g, A g → B g) : St W w (B :: L) :=
  let ⟨hb, g, hs, hv⟩ := h; ⟨hb, g, sep_mono hs hab fun _ y => y, hv⟩

theorem St.ex {α : Type} {W w : World} {f : α → HP} {L : List HP} (h : St W w (exH f :: L)) : ∃ x, St W w (f x :: L) := by
  obtain ⟨hb, g, ⟨h1, h2, hd, hu, ⟨x, hx⟩, hl⟩, hv⟩ := h
  exact ⟨x, hb, g, ⟨h1, h2, hd, hu, hx, hl⟩, hv⟩

theorem St.ex_intro {α : Type} {W w : World} {f : α → HP} {L : List HP} (x : α) (h : St W w (f x :: L)) : St W w (exH f :: L) := h.mono fun _ hx => ⟨x, hx⟩

theorem St.and {W w : World} {p : Prop} {A : HP} {L : List HP} (h : St W w (andH p A :: L)) : p ∧ St W w (A :: L) := by
  obtain ⟨hb, g, ⟨h1, h2, hd, hu, ⟨hp, hx⟩, hl⟩, hv⟩ := h
  exact ⟨hp, hb, g, ⟨h1, h2, hd, hu, hx, hl⟩, hv⟩

theorem St.and_intro {W w : World} {p : Prop} {A : HP} {L : List HP} (hp : p) (h : St W w (A :: L)) : St W w (andH p A :: L) := h.mono fun _ hx => ⟨hp, hx⟩

theorem St.split {W w : World} {A B : HP} {L : List HP} (h : St W w (sep A B :: L)) : St W w (A :: B :: L) :=
  let ⟨hb, g, hs, hv⟩ := h; ⟨hb, g, sep_assoc hs, hv⟩
theorem St.join {W w : World} {A B : HP} {L : List HP} (h : St W w (A :: B :: L)) : St W w (sep A B :: L) :=
  let ⟨hb, g, hs, hv⟩ := h; ⟨hb, g, sep_assoc' hs, hv⟩

theorem St.below {W w : World} {L : List HP} (h : St W w L) : Below W.heap.size W w := h.1

/-! ### Blocks -/

theorem view_cell {w : World} {b o : Nat} {cs : List Value} (h : view w b = some cs) : w.cell? ⟨b, o, none⟩ = cs[o]? ∧ (o < cs.length → w.frozen? ⟨b, o, none⟩ = false) ∧ b < w.heap.size := by
  unfold view at h
  cases hb : w.heap[b]? with
  | none => simp [hb] at h
  | some x =>
    have hlt : b < w.heap.size := (Array.getElem?_eq_some_iff.1 hb).1
    cases x <;> simp only [hb, reduceCtorEq] at h
    rename_i c e fz
    split at h
    · rename_i hfz
      cases h
      refine ⟨by simp [World.cell?, hb], fun ho => ?_, hlt⟩
      simp only [World.frozen?, hb]
      obtain ⟨lo, hi⟩ := fz
      simp at hfz ho ⊢
      omega
    · cases h

theorem St.cell {W w : World} {L : List HP} {k b o : Nat} {cs : List Value} (h : St W w L) (hk : L[k]? = some (pt b cs)) :
    w.cell? ⟨b, o, none⟩ = cs[o]? ∧ (o < cs.length → w.frozen? ⟨b, o, none⟩ = false) ∧ b < w.heap.size ∧ W.heap.size ≤ b := by
  obtain ⟨hb, g, ⟨h1, h2, hd, hu, ha, hl⟩, hv⟩ := h.focus hk
  have hg : g b = some cs := by rw [hu b]; simp only [pt] at ha; simp [ha]
  obtain ⟨h3, h4⟩ := hv b cs hg
  obtain ⟨h5, h6, h7⟩ := view_cell (o := o) h4
  exact ⟨h5, h6, h7, h3⟩

theorem view_setCell_same {w : World} {b o : Nat} {cs : List Value} {v : Value} (h : view w b = some cs) : view (w.setCell ⟨b, o, none⟩ v) b = some (cs.set o v) := by
  unfold view at h ⊢
  cases hb : w.heap[b]? with
  | none => simp [hb] at h
  | some x =>
    cases x <;> simp only [hb, reduceCtorEq] at h
    rename_i c e fz
    have : (w.setCell ⟨b, o, none⟩ v).heap[b]? = some (.cells (c.setIfInBounds o v) e fz) := by
      simp [World.setCell, Array.getElem?_modify, hb]
    simp only [this, Array.size_setIfInBounds]
    split at h
    · rename_i hfz; cases h; rw [if_pos hfz]; simp
    · cases h

theorem view_of_heap {w w' : World} {b : Nat} (h : w'.heap[b]? = w.heap[b]?) : view w' b = view w b := by unfold view; rw [h]

/-- The one step by which the world turns under what is owned. -/
theorem St.turn {W w w' : World} {L : List HP} {k b : Nat} {cs cs' : List Value} (h : St W w L) (hk : L[k]? = some (pt b cs)) (hb : Below W.heap.size W w')
    (hv' : view w' b = some cs') (ho : ∀ j, j ≠ b → j < w.heap.size → w'.heap[j]? = w.heap[j]?) : St W w' (L.set k (pt b cs')) := by
  refine St.unfocus (A := pt b cs) ?_ hk
  obtain ⟨_, g, ⟨h1, h2, hd, hu, ha, hl⟩, hv⟩ := h.focus hk
  simp only [pt] at ha
  have hge : W.heap.size ≤ b := (hv b cs (by rw [hu b]; simp [ha])).1
  refine ⟨hb, fun j => if j = b then some cs' else g j, ⟨fun j => if j = b then some cs' else h1 j, h2, fun j => ?_, fun j => ?_, by simp [pt], hl⟩, fun j ds hj => ?_⟩
  · by_cases e : j = b
    · subst e; right
      rcases hd j with h | h
      · rw [h] at ha; cases ha
      · exact h
    · simpa [e] using hd j
  · by_cases e : j = b
    · subst e; simp
    · simp [e, hu j]
  · by_cases e : j = b
    · subst e; simp at hj; subst hj; exact ⟨hge, hv'⟩
    · simp [e] at hj
      obtain ⟨h3, h4⟩ := hv j ds hj
      have hlt : j < w.heap.size := (view_cell (o := 0) h4).2.2
      exact ⟨h3, by rw [view_of_heap (ho j e hlt)]; exact h4⟩

theorem St.set {W w : World} {L : List HP} {k b o : Nat} {cs : List Value} (v : Value) (h : St W w L) (hk : L[k]? = some (pt b cs)) : St W (w.setCell ⟨b, o, none⟩ v) (L.set k (pt b (cs.set o v))) := by
  have hc := h.cell (o := o) hk
  obtain ⟨_, g, ⟨h1, h2, hd, hu, ha, hl⟩, hv⟩ := h.focus hk
  have hvw := (hv b cs (by rw [hu b]; simp only [pt] at ha; simp [ha])).2
  exact h.turn hk (h.1.setCell (p := ⟨b, o, none⟩) hc.2.2.2 v) (view_setCell_same hvw) (fun j hj _ => Below.heap_setCell w ⟨b, o, none⟩ v j hj)

theorem view_alloc {w : World} {cs : List Value} {t : TypeId} : view (w.alloc (.cells ⟨cs⟩ t)) w.heap.size = some cs := by
  unfold view
  show (match (w.heap.push (.cells ⟨cs⟩ t))[w.heap.size]? with | some (.cells c _ fz) => _ | _ => none) = _
  rw [Array.getElem?_push_size]
  simp

theorem St.new {W w : World} {L : List HP} (h : St W w L) (cs : List Value) (t : TypeId) : St W (w.alloc (.cells ⟨cs⟩ t)) (pt w.heap.size cs :: L) := by
  obtain ⟨hb, g, hs, hv⟩ := h
  have hle := hb.size
  have hg0 : g w.heap.size = none := by
    cases hg : g w.heap.size with
    | none => rfl
    | some ds => exact absurd (view_cell (o := 0) (hv _ _ hg).2).2.2 (by omega)
  refine ⟨hb.alloc hle _, fun j => if j = w.heap.size then some cs else g j, ⟨fun j => if j = w.heap.size then some cs else none, g, fun j => ?_, fun j => ?_, by simp [pt], hs⟩, fun j ds hj => ?_⟩
  · by_cases e : j = w.heap.size
    · subst e; exact .inr hg0
    · simp [e]
  · by_cases e : j = w.heap.size
    · subst e; simp
    · simp [e]
  · by_cases e : j = w.heap.size
    · subst e; simp at hj; subst hj; exact ⟨hle, view_alloc⟩
    · simp [e] at hj
      obtain ⟨h3, h4⟩ := hv j ds hj
      exact ⟨h3, by rw [view_of_heap (Below.heap_alloc w _ j (view_cell (o := 0) h4).2.2)]; exact h4⟩

theorem St.drew {W w : World} {L : List HP} (h : St W w L) : St W w.drew L :=
  let ⟨hb, g, hs, hv⟩ := h; ⟨hb.drew, g, hs, hv⟩

/-- From another world's relation: what is owned stays, below 'w'. -/
theorem St.below_trans {W w w' : World} {L : List HP} (h : St W w L) (hb : Below w.heap.size w w') : St W w' L := by
  obtain ⟨hB, g, hs, hv⟩ := h
  refine ⟨hB.trans (hb.mono hB.size), g, hs, fun b cs hc => ?_⟩
  obtain ⟨h1, h2⟩ := hv b cs hc
  exact ⟨h1, by rw [view_of_heap (hb.block b (view_cell (o := 0) h2).2.2)]; exact h2⟩

theorem St.start (W : World) : St W W [] := ⟨Below.refl _ _, fun _ => none, trivial, fun b cs h => by cases h⟩

end Go.Sep
