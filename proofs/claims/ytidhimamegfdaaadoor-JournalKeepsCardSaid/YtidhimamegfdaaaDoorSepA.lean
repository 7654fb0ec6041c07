/- SepA: Sep, Rules, Own, merged: part of the proof: see the last text. -/
import Derived.Test.YtidhimamegfdaaaDoorDenB
import Derived.Below
/- A small separation logic over the model's worlds: what is owned lies above a baseline world 'W', whose blocks stay as they were. -/
namespace Go.Sep
set_option linter.unusedSimpArgs false
set_option linter.unusedVariables false
open Go.Den Go.RowKit

abbrev HP := (Nat → Option (List Value)) → Prop

/-- A block's cells, if all of them may be written. -/
def view (w : World) (b : Nat) : Option (List Value) :=
  match w.heap[b]? with
  | some (.cells c _ fz) => if c.size ≤ fz.1 ∨ fz.2 = 0 then some c.toList else none
  | _ => none

def sep (A B : HP) : HP := fun h => ∃ h1 h2, (∀ b, h1 b = none ∨ h2 b = none) ∧ (∀ b, h b = (h1 b).or (h2 b)) ∧ A h1 ∧ B h2

def seps : List HP → HP
  | [] => fun _ => True
  | A :: L => sep A (seps L)

/-- Block 'b' holds the cells 'cs'. -/
def pt (b : Nat) (cs : List Value) : HP := fun h => h b = some cs

def exH {α : Type} (f : α → HP) : HP := fun h => ∃ x, f x h
def andH (p : Prop) (A : HP) : HP := fun h => p ∧ A h

def St (W w : World) (L : List HP) : Prop := Below W.heap.size W w ∧ ∃ h, seps L h ∧ ∀ b cs, h b = some cs → W.heap.size ≤ b ∧ view w b = some cs

/-! ### The list of what is owned -/

theorem sep_comm {A B : HP} {h : Nat → Option (List Value)} (x : sep A B h) : sep B A h := by
  obtain ⟨h1, h2, hd, hu, ha, hb⟩ := x
  refine ⟨h2, h1, fun b => (hd b).symm, fun b => ?_, hb, ha⟩
  rw [hu b]
  rcases hd b with h | h <;> simp [h]

theorem sep_assoc {A B C : HP} {h : Nat → Option (List Value)} (x : sep (sep A B) C h) : sep A (sep B C) h := by
  obtain ⟨h12, h3, hd, hu, ⟨h1, h2, hd', hu', ha, hb⟩, hc⟩ := x
  refine ⟨h1, fun b => (h2 b).or (h3 b), fun b => ?_, fun b => ?_, ha, h2, h3, fun b => ?_, fun b => rfl, hb, hc⟩
  · rcases hd' b with h | h
    · exact .inl h
    · rcases hd b with g | g
      · rw [hu' b, h] at g; left; simpa using g
      · right; simp [h, g]
  · rw [hu b, hu' b]; simp [Option.or_assoc]
  · rcases hd b with g | g
    · rw [hu' b] at g; simp at g; exact .inl g.2
    · exact .inr g

theorem sep_assoc' {A B C : HP} {h : Nat → Option (List Value)} (x : sep A (sep B C) h) : sep (sep A B) C h :=
  sep_comm (sep_assoc (sep_comm (sep_assoc (sep_comm x))))

theorem sep_mono {A B A' B' : HP} {h : Nat → Option (List Value)} (x : sep A B h) (ha : ∀ g, A g → A' g) (hb : ∀ g, B g → B' g) : sep A' B' h := by
  obtain ⟨h1, h2, hd, hu, a, b⟩ := x
  exact ⟨h1, h2, hd, hu, ha _ a, hb _ b⟩

theorem seps_perm {L M : List HP} (p : L.Perm M) : ∀ h, seps L h → seps M h := by
  induction p with
  | nil => exact fun h x => x
  | cons A _ ih => exact fun h x => sep_mono x (fun _ a => a) ih
  | swap A B l => exact fun h x => sep_assoc (sep_mono (sep_assoc' x) (fun _ y => sep_comm y) fun _ y => y)
  | trans _ _ ih1 ih2 => exact fun h x => ih2 h (ih1 h x)

theorem St.perm {W w : World} {L M : List HP} (h : St W w L) (p : L.Perm M) : St W w M :=
  let ⟨hb, g, hs, hv⟩ := h; ⟨hb, g, seps_perm p g hs, hv⟩

theorem getElem?_perm {α : Type} : ∀ {L : List α} {k : Nat} {A : α}, L[k]? = some A → L.Perm (A :: L.eraseIdx k)
  | [], k, A, h => by simp at h
  | B :: L, 0, A, h => by simp at h; subst h; simp
  | B :: L, k + 1, A, h => by
    simp only [List.getElem?_cons_succ] at h
    exact ((getElem?_perm h).cons B).trans (List.Perm.swap _ _ _)

theorem set_perm {α : Type} : ∀ {L : List α} {k : Nat} {A B : α}, L[k]? = some A → (B :: L.eraseIdx k).Perm (L.set k B)
  | [], k, A, B, h => by simp at h
  | C :: L, 0, A, B, h => by simp
  | C :: L, k + 1, A, B, h => by
    simp only [List.getElem?_cons_succ] at h
    exact (List.Perm.swap _ _ _).trans ((set_perm h).cons C)

theorem St.focus {W w : World} {L : List HP} {k : Nat} {A : HP} (h : St W w L) (hk : L[k]? = some A) : St W w (A :: L.eraseIdx k) := h.perm (getElem?_perm hk)
theorem St.unfocus {W w : World} {L : List HP} {k : Nat} {A B : HP} (h : St W w (B :: L.eraseIdx k)) (hk : L[k]? = some A) : St W w (L.set k B) := h.perm (set_perm hk)

/-- What is owned may be let go. -/
theorem St.drop {W w : World} {A : HP} {L : List HP} (h : St W w (A :: L)) : St W w L := by
  obtain ⟨hb, g, ⟨h1, h2, hd, hu, ha, hl⟩, hv⟩ := h
  refine ⟨hb, h2, hl, fun b cs hcs => hv b cs ?_⟩
  rw [hu b]
  rcases hd b with h | h
  · simp [h, hcs]
  · rw [h] at hcs; cases hcs

theorem St.mono {W w : World} {A B : HP} {L : List HP} (h : St W w (A :: L)) (hab : ∀ g, A g → B g) : St W w (B :: L) :=
  let ⟨hb, g, hs, hv⟩ := h; ⟨hb, g, sep_mono hs hab fun _ y => y, hv⟩

theorem St.ex {α : Type} {W w : World} {f : α → HP} {L : List HP} (h : St W w (exH f :: L)) : ∃ x, St W w (f x :: L) := by
  obtain ⟨hb, g, ⟨h1, h2, hd, hu, ⟨x, hx⟩, hl⟩, hv⟩ := h
  exact ⟨x, hb, g, ⟨h1, h2, hd, hu, hx, hl⟩, hv⟩

theorem St.ex_intro {α : Type} {W w : World} {f : α → HP} {L : List HP} (x : α) (h : St W w (f x :: L)) : St W w (exH f :: L) := h.mono fun _ hx => ⟨x, hx⟩

theorem St.and {W w : World} {p : Prop} {A : HP} {L : List HP} (h : St W w (andH p A :: L)) : p ∧ St W w (A :: L) := by
  obtain ⟨hb, g, ⟨h1, h2, hd, hu, ⟨hp, hx⟩, hl⟩, hv⟩ := h
  exact ⟨hp, hb, g, ⟨h1, h2, hd, hu, hx, hl⟩, hv⟩

theorem St.and_intro {W w : World} {p : Prop} {A : HP} {L : List HP} (hp : p) (h : St W w (A :: L)) : St W w (andH p A :: L) := h.mono fun _ hx => ⟨hp, hx⟩

theorem St.split {W w : World} {A B : HP} {L : List HP} (h : St W w (sep A B :: L)) : St W w (A :: B :: L) :=
  let ⟨hb, g, hs, hv⟩ := h; ⟨hb, g, sep_assoc hs, hv⟩
theorem St.join {W w : World} {A B : HP} {L : List HP} (h : St W w (A :: B :: L)) : St W w (sep A B :: L) :=
  let ⟨hb, g, hs, hv⟩ := h; ⟨hb, g, sep_assoc' hs, hv⟩

theorem St.below {W w : World} {L : List HP} (h : St W w L) : Below W.heap.size W w := h.1

/-! ### Blocks -/

theorem view_cell {w : World} {b o : Nat} {cs : List Value} (h : view w b = some cs) : w.cell? ⟨b, o, none⟩ = cs[o]? ∧ (o < cs.length → w.frozen? ⟨b, o, none⟩ = false) ∧ b < w.heap.size := by
  unfold view at h
  cases hb : w.heap[b]? with
  | none => simp [hb] at h
  | some x =>
    have hlt : b < w.heap.size := (Array.getElem?_eq_some_iff.1 hb).1
    cases x <;> simp only [hb, reduceCtorEq] at h
    rename_i c e fz
    split at h
    · rename_i hfz
      cases h
      refine ⟨by simp [World.cell?, hb], fun ho => ?_, hlt⟩
      simp only [World.frozen?, hb]
      obtain ⟨lo, hi⟩ := fz
      simp at hfz ho ⊢
      omega
    · cases h

theorem St.cell {W w : World} {L : List HP} {k b o : Nat} {cs : List Value} (h : St W w L) (hk : L[k]? = some (pt b cs)) :
    w.cell? ⟨b, o, none⟩ = cs[o]? ∧ (o < cs.length → w.frozen? ⟨b, o, none⟩ = false) ∧ b < w.heap.size ∧ W.heap.size ≤ b := by
  obtain ⟨hb, g, ⟨h1, h2, hd, hu, ha, hl⟩, hv⟩ := h.focus hk
  have hg : g b = some cs := by rw [hu b]; simp only [pt] at ha; simp [ha]
  obtain ⟨h3, h4⟩ := hv b cs hg
  obtain ⟨h5, h6, h7⟩ := view_cell (o := o) h4
  exact ⟨h5, h6, h7, h3⟩

theorem view_setCell_same {w : World} {b o : Nat} {cs : List Value} {v : Value} (h : view w b = some cs) : view (w.setCell ⟨b, o, none⟩ v) b = some (cs.set o v) := by
  unfold view at h ⊢
  cases hb : w.heap[b]? with
  | none => simp [hb] at h
  | some x =>
    cases x <;> simp only [hb, reduceCtorEq] at h
    rename_i c e fz
    have : (w.setCell ⟨b, o, none⟩ v).heap[b]? = some (.cells (c.setIfInBounds o v) e fz) := by
      simp [World.setCell, Array.getElem?_modify, hb]
    simp only [this, Array.size_setIfInBounds]
    split at h
    · rename_i hfz; cases h; rw [if_pos hfz]; simp
    · cases h

theorem view_of_heap {w w' : World} {b : Nat} (h : w'.heap[b]? = w.heap[b]?) : view w' b = view w b := by unfold view; rw [h]

/-- The one step by which the world turns under what is owned. -/
theorem St.turn {W w w' : World} {L : List HP} {k b : Nat} {cs cs' : List Value} (h : St W w L) (hk : L[k]? = some (pt b cs)) (hb : Below W.heap.size W w')
    (hv' : view w' b = some cs') (ho : ∀ j, j ≠ b → j < w.heap.size → w'.heap[j]? = w.heap[j]?) : St W w' (L.set k (pt b cs')) := by
  refine St.unfocus (A := pt b cs) ?_ hk
  obtain ⟨_, g, ⟨h1, h2, hd, hu, ha, hl⟩, hv⟩ := h.focus hk
  simp only [pt] at ha
  have hge : W.heap.size ≤ b := (hv b cs (by rw [hu b]; simp [ha])).1
  refine ⟨hb, fun j => if j = b then some cs' else g j, ⟨fun j => if j = b then some cs' else h1 j, h2, fun j => ?_, fun j => ?_, by simp [pt], hl⟩, fun j ds hj => ?_⟩
  · by_cases e : j = b
    · subst e; right
      rcases hd j with h | h
      · rw [h] at ha; cases ha
      · exact h
    · simpa [e] using hd j
  · by_cases e : j = b
    · subst e; simp
    · simp [e, hu j]
  · by_cases e : j = b
    · subst e; simp at hj; subst hj; exact ⟨hge, hv'⟩
    · simp [e] at hj
      obtain ⟨h3, h4⟩ := hv j ds hj
      have hlt : j < w.heap.size := (view_cell (o := 0) h4).2.2
      exact ⟨h3, by rw [view_of_heap (ho j e hlt)]; exact h4⟩

theorem St.set {W w : World} {L : List HP} {k b o : Nat} {cs : List Value} (v : Value) (h : St W w L) (hk : L[k]? = some (pt b cs)) : St W (w.setCell ⟨b, o, none⟩ v) (L.set k (pt b (cs.set o v))) := by
  have hc := h.cell (o := o) hk
  obtain ⟨_, g, ⟨h1, h2, hd, hu, ha, hl⟩, hv⟩ := h.focus hk
  have hvw := (hv b cs (by rw [hu b]; simp only [pt] at ha; simp [ha])).2
  exact h.turn hk (h.1.setCell (p := ⟨b, o, none⟩) hc.2.2.2 v) (view_setCell_same hvw) (fun j hj _ => Below.heap_setCell w ⟨b, o, none⟩ v j hj)

theorem view_alloc {w : World} {cs : List Value} {t : TypeId} : view (w.alloc (.cells ⟨cs⟩ t)) w.heap.size = some cs := by
  unfold view
  show (match (w.heap.push (.cells ⟨cs⟩ t))[w.heap.size]? with | some (.cells c _ fz) => _ | _ => none) = _
  rw [Array.getElem?_push_size]
  simp

theorem St.new {W w : World} {L : List HP} (h : St W w L) (cs : List Value) (t : TypeId) : St W (w.alloc (.cells ⟨cs⟩ t)) (pt w.heap.size cs :: L) := by
  obtain ⟨hb, g, hs, hv⟩ := h
  have hle := hb.size
  have hg0 : g w.heap.size = none := by
    cases hg : g w.heap.size with
    | none => rfl
    | some ds => exact absurd (view_cell (o := 0) (hv _ _ hg).2).2.2 (by omega)
  refine ⟨hb.alloc hle _, fun j => if j = w.heap.size then some cs else g j, ⟨fun j => if j = w.heap.size then some cs else none, g, fun j => ?_, fun j => ?_, by simp [pt], hs⟩, fun j ds hj => ?_⟩
  · by_cases e : j = w.heap.size
    · subst e; exact .inr hg0
    · simp [e]
  · by_cases e : j = w.heap.size
    · subst e; simp
    · simp [e]
  · by_cases e : j = w.heap.size
    · subst e; simp at hj; subst hj; exact ⟨hle, view_alloc⟩
    · simp [e] at hj
      obtain ⟨h3, h4⟩ := hv j ds hj
      exact ⟨h3, by rw [view_of_heap (Below.heap_alloc w _ j (view_cell (o := 0) h4).2.2)]; exact h4⟩

theorem St.drew {W w : World} {L : List HP} (h : St W w L) : St W w.drew L :=
  let ⟨hb, g, hs, hv⟩ := h; ⟨hb.drew, g, hs, hv⟩

/-- From another world's relation: what is owned stays, below 'w'. -/
theorem St.below_trans {W w w' : World} {L : List HP} (h : St W w L) (hb : Below w.heap.size w w') : St W w' L := by
  obtain ⟨hB, g, hs, hv⟩ := h
  refine ⟨hB.trans (hb.mono hB.size), g, hs, fun b cs hc => ?_⟩
  obtain ⟨h1, h2⟩ := hv b cs hc
  exact ⟨h1, by rw [view_of_heap (hb.block b (view_cell (o := 0) h2).2.2)]; exact h2⟩

theorem St.start (W : World) : St W W [] := ⟨Below.refl _ _, fun _ => none, trivial, fun b cs h => by cases h⟩

end Go.Sep

/- Rules for the primitives, over what is owned. -/
namespace Go.Sep
open Go.Den Go.RowKit

section
variable {w : World}
theorem xI_eq (k : IntKind) (K : Int → WK) (n : Int) (w : World) : xI k K (.int k n) w = K n w := by
  simp [xI]
theorem xB_eq (K : Bool → WK) (b : Bool) (w : World) : xB K (.bool b) w = K b w := by simp [xB]
theorem xS_eq (K : ByteArray → WK) (s : ByteArray) (w : World) : xS K (.string s) w = K s w := by simp [xS]
theorem xP_eq (K : Option Addr → WK) (p : Option Addr) (w : World) : xP K (.pointer p) w = K p w := by simp [xP]
theorem xL_eq (K : Option Addr → Nat → Nat → WK) (b : Option Addr) (n c : Nat) (w : World) : xL K (.slice b n c) w = K b n c w :=
  propext ⟨fun ⟨_, _, _, h, hk⟩ => by cases h; exact hk, fun h => ⟨_, _, _, rfl, h⟩⟩
theorem xA_eq (n : Nat) (K : List Value → WK) (cs : List Value) (w : World) : xA n K (.agg ⟨cs⟩) w = (cs.length = n ∧ K cs w) := by
  simp [xA]
theorem x0_eq (K : WK) (w : World) : x0 K (.tuple ⟨[]⟩) w = K w := by simp [x0]
theorem x2_eq (K : Value → Value → WK) (a b : Value) (w : World) : x2 K (.tuple ⟨[a, b]⟩) w = K a b w :=
  propext ⟨fun ⟨_, _, h, hk⟩ => by cases h; exact hk, fun h => ⟨_, _, rfl, h⟩⟩
theorem x3_eq (K : Value → Value → Value → WK) (a b c : Value) (w : World) : x3 K (.tuple ⟨[a, b, c]⟩) w = K a b c w :=
  propext ⟨fun ⟨_, _, _, h, hk⟩ => by cases h; exact hk, fun h => ⟨_, _, _, rfl, h⟩⟩
theorem br_true (X Y : WK) : br true X Y = X := rfl
theorem br_false (X Y : WK) : br false X Y = Y := rfl
theorem nn_some (a : Addr) (K : Addr → WK) : nn (some a) K = K a := rfl
theorem chk_eq (p : Prop) (K : WK) (w : World) : chk p K w = (p ∧ K w) := rfl
theorem tick_eq (K : WK) (w : World) : tick K w = K w.drew := rfl
theorem add_mk (b o n : Nat) : (⟨b, o, none⟩ : Addr).add n = ⟨b, o + n, none⟩ := by
  unfold Addr.add; split
  · rename_i h; subst h; rfl
  · rfl
theorem br_of {b : Bool} {X Y : WK} (h1 : b = true → X w) (h2 : b = false → Y w) : br b X Y w := by
  cases b with
  | true => exact h1 rfl
  | false => exact h2 rfl
theorem br_dec {p : Prop} [Decidable p] {X Y : WK} (h1 : p → X w) (h2 : ¬ p → Y w) : br (decide p) X Y w :=
  br_of (fun h => h1 (of_decide_eq_true h)) (fun h => h2 (of_decide_eq_false h))
theorem br_not {b : Bool} {X Y : WK} (h : br b Y X w) : br (!b) X Y w := by cases b <;> exact h
theorem br_eq {x y : Int} {X Y : WK} (h1 : x = y → X w) (h2 : x ≠ y → Y w) : br (x == y) X Y w :=
  br_of (fun h => h1 (by simpa using h)) (fun h => h2 (by simpa using h))
theorem br_ne {x y : Int} {X Y : WK} (h1 : x ≠ y → X w) (h2 : x = y → Y w) : br (x != y) X Y w :=
  br_of (fun h => h1 (by simpa using h)) (fun h => h2 (by simpa using h))
end

section
variable {W w : World} {L : List HP} {k : Nat}

theorem ld_of {a : Addr} {v : Value} {K : VK} (h : w.cell? a = some v) (hk : K v w) : ld a K w := ⟨v, h, hk⟩

theorem ld_pt {b o : Nat} {cs : List Value} {v : Value} {K : VK} (h : St W w L) (hk : L[k]? = some (pt b cs)) (hv : cs[o]? = some v) (hK : K v w) : ld ⟨b, o, none⟩ K w :=
  ⟨v, by rw [(h.cell hk).1, hv], hK⟩

theorem st_pt {b o : Nat} {cs : List Value} {v : Value} {K : WK} (h : St W w L) (hk : L[k]? = some (pt b cs)) (ho : o < cs.length) (h1 : v.oneCell' = true)
    (hK : ∀ w', St W w' (L.set k (pt b (cs.set o v))) → K w') : st ⟨b, o, none⟩ v K w := by
  obtain ⟨h2, h3, _⟩ := h.cell (o := o) hk
  exact ⟨h1, ⟨cs[o], by rw [h2]; simp [ho]⟩, h3 ho, hK _ (h.set v hk)⟩

theorem mk_of {cs : List Value} {K : Nat → WK} (h : St W w L) (hK : ∀ r w', St W w' (pt r cs :: L) → K r w') : mk cs K w := fun t => hK _ _ (h.new cs t)

theorem tick_of {K : WK} (h : St W w L) (hK : ∀ w', St W w' L → K w') : tick K w := hK _ h.drew

theorem Holds_pt {b o : Nat} {cs xs : List Value} (h : St W w L) (hk : L[k]? = some (pt b cs)) (hx : ∀ j v, xs[j]? = some v → cs[o + j]? = some v) : Holds w ⟨b, o, none⟩ xs := fun j v hj => by
  rw [add_mk, (h.cell hk).1]; exact hx j v hj

theorem kp_pt {b o : Nat} {cs xs : List Value} {K : WK} (h : St W w L) (hk : L[k]? = some (pt b cs)) (hx : ∀ j v, xs[j]? = some v → cs[o + j]? = some v) (hK : K w) : kp ⟨b, o, none⟩ xs K w :=
  ⟨Holds_pt h hk hx, hK⟩

theorem kp_one {b o : Nat} {cs : List Value} {v : Value} {K : WK} (h : St W w L) (hk : L[k]? = some (pt b cs)) (hx : cs[o]? = some v) (hK : K w) : kp ⟨b, o, none⟩ [v] K w :=
  kp_pt h hk (fun j u hj => by
    cases j with
    | zero => simp at hj; subst hj; exact hx
    | succ j => simp at hj) hK

theorem ldN_pt {b o n : Nat} {cs xs : List Value} {K : List Value → WK} (h : St W w L) (hk : L[k]? = some (pt b cs)) (hl : xs.length = n) (hx : ∀ j v, xs[j]? = some v → cs[o + j]? = some v) (hK : K xs w) : ldN ⟨b, o, none⟩ n K w :=
  ⟨xs, hl, Holds_pt h hk hx, hK⟩

/-- 'cs' with 'xs' laid over it from 'o' on. -/
def over (cs : List Value) (o : Nat) (xs : List Value) : List Value := cs.take o ++ xs ++ cs.drop (o + xs.length)

theorem over_length {cs : List Value} {o : Nat} {xs : List Value} (h : o + xs.length ≤ cs.length) : (over cs o xs).length = cs.length := by
  simp [over]; omega

theorem over_get {cs : List Value} {o : Nat} {xs : List Value} (h : o + xs.length ≤ cs.length) (j : Nat) : (over cs o xs)[j]? = if j < o then cs[j]? else if j < o + xs.length then xs[j - o]? else cs[j]? := by
  unfold over
  rw [List.append_assoc]
  by_cases h1 : j < o
  · rw [if_pos h1, List.getElem?_append_left (by simp; omega), List.getElem?_take_of_lt h1]
  · rw [if_neg h1, List.getElem?_append_right (by simp; omega)]
    have e : (cs.take o).length = o := by simp; omega
    rw [e]
    by_cases h2 : j < o + xs.length
    · rw [if_pos h2, List.getElem?_append_left (by omega)]
    · rw [if_neg h2, List.getElem?_append_right (by omega), List.getElem?_drop]
      congr 1; omega

theorem over_set {cs : List Value} {o : Nat} {v : Value} {xs : List Value} (h : o + (xs.length + 1) ≤ cs.length) : over (cs.set o v) (o + 1) xs = over cs o (v :: xs) := by
  apply List.ext_getElem?
  intro j
  rw [over_get (by simp; omega), over_get (by simpa using h)]
  by_cases h1 : j < o
  · rw [if_pos (by omega), if_pos h1, List.getElem?_set_ne (by omega)]
  · by_cases h2 : j = o
    · subst h2
      rw [if_pos (by omega), if_neg (by omega), if_pos (by simp)]
      have : j < cs.length := by omega
      simp [this]
    · rw [if_neg (by omega), if_neg h1]
      by_cases h3 : j < o + (xs.length + 1)
      · rw [if_pos (by omega), if_pos (by simpa using h3)]
        obtain ⟨m, rfl⟩ : ∃ m, j = o + 1 + m := ⟨j - (o + 1), by omega⟩
        rw [show o + 1 + m - o = m + 1 from by omega, show o + 1 + m - (o + 1) = m from by omega]
        rfl
      · rw [if_neg (by omega), if_neg (by simpa using h3), List.getElem?_set_ne (by omega)]

theorem set_same {α : Type} : ∀ {L : List α} {k : Nat} {A : α}, L[k]? = some A → L.set k A = L
  | [], k, A, h => by simp at h
  | B :: L, 0, A, h => by simp at h; subst h; rfl
  | B :: L, k + 1, A, h => by simp only [List.getElem?_cons_succ] at h; simp only [List.set_cons_succ, set_same h]

theorem St.setL : ∀ (xs : List Value) {w : World} {L : List HP} {b : Nat} (o i : Nat) {cs : List Value}, St W w L → L[k]? = some (pt b cs) → o + i + xs.length ≤ cs.length → (∀ v ∈ xs, v.oneCell' = true) →
    CanSet w ⟨b, o, none⟩ i xs ∧ St W (Den.setL w ⟨b, o, none⟩ i xs) (L.set k (pt b (over cs (o + i) xs)))
  | [], w, L, b, o, i, cs, h, hk, hl, h1 => by
    refine ⟨⟨by simp, by simp⟩, ?_⟩
    have : over cs (o + i) [] = cs := by simp [over]
    rw [this, set_same hk]
    exact h
  | v :: xs, w, L, b, o, i, cs, h, hk, hl, h1 => by
    have hk' : (L.set k (pt b (cs.set (o + i) v)))[k]? = some (pt b (cs.set (o + i) v)) := by
      have := (List.getElem?_eq_some_iff.1 hk).1
      simp [this]
    have h2 := h.set (o := o + i) v hk
    obtain ⟨hc, hs⟩ := St.setL xs o (i + 1) h2 hk' (by simp at hl ⊢; omega) (fun u hu => h1 u (by simp [hu]))
    refine ⟨⟨h1, fun j hj => ?_⟩, ?_⟩
    · rw [add_mk]
      obtain ⟨g1, g2, _⟩ := h.cell (o := o + (i + j)) hk
      simp only [List.length_cons] at hl hj
      have hlt : o + (i + j) < cs.length := by omega
      exact ⟨⟨cs[o + (i + j)], by rw [g1]; simp [hlt]⟩, g2 hlt⟩
    · simp only [Den.setL]
      rw [add_mk, List.set_set] at *
      have e := over_set (cs := cs) (o := o + i) (v := v) (xs := xs) (by simp at hl; omega)
      rw [show o + (i + 1) = o + i + 1 from by omega, e] at hs
      exact hs

theorem stN_pt {b o : Nat} {cs xs : List Value} {K : WK} (h : St W w L) (hk : L[k]? = some (pt b cs)) (hl : o + xs.length ≤ cs.length) (h1 : ∀ v ∈ xs, v.oneCell' = true)
    (hK : ∀ w', St W w' (L.set k (pt b (over cs o xs))) → K w') : stN ⟨b, o, none⟩ xs K w := by
  obtain ⟨hc, hs⟩ := St.setL xs o 0 h hk (by omega) h1
  exact ⟨hc, hK _ hs⟩

end
end Go.Sep

/- Slices that are owned: an array of one's own, of which a beginning is in use. -/
namespace Go.Sep
open Go.Den Go.RowKit

/-- The slice (b, n, c), of elements of 'e' cells, holds 'xs'; its array is ours. -/
def own (b : Option Addr) (n c e : Nat) (xs : List Value) : HP := fun h =>
  xs.length = n * e ∧ ((b = none ∧ n = 0 ∧ c = 0) ∨ ∃ r sp, b = some ⟨r, 0, none⟩ ∧ n ≤ c ∧ sp.length = (c - n) * e ∧ pt r (xs ++ sp) h)

section
variable {W w : World} {L : List HP} {k : Nat} {b : Option Addr} {n c e : Nat} {xs : List Value}

theorem St.push {A : HP} (h : St W w L) (ha : A fun _ => none) : St W w (A :: L) := by
  obtain ⟨hb, g, hs, hv⟩ := h
  exact ⟨hb, g, ⟨fun _ => none, g, fun b => .inl rfl, fun b => by simp, ha, hs⟩, hv⟩

theorem own_nil (e : Nat) : own none 0 0 e [] fun _ => none := ⟨by simp, .inl ⟨rfl, rfl, rfl⟩⟩

theorem St.own_cases (h : St W w L) (hk : L[k]? = some (own b n c e xs)) : xs.length = n * e ∧
    ((b = none ∧ n = 0 ∧ c = 0) ∨ ∃ r sp, b = some ⟨r, 0, none⟩ ∧ n ≤ c ∧ sp.length = (c - n) * e ∧ St W w (L.set k (pt r (xs ++ sp)))) := by
  obtain ⟨hb, g, ⟨h1, h2, hd, hu, ⟨hl, ha⟩, hs⟩, hv⟩ := h.focus hk
  refine ⟨hl, ha.imp id ?_⟩
  rintro ⟨r, sp, hb', hnc, hsp, hp⟩
  exact ⟨r, sp, hb', hnc, hsp, St.unfocus (A := own b n c e xs) ⟨hb, g, ⟨h1, h2, hd, hu, hp, hs⟩, hv⟩ hk⟩

theorem set_get {α : Type} {L : List α} {k : Nat} {A B : α} (hk : L[k]? = some A) : (L.set k B)[k]? = some B := by
  have := (List.getElem?_eq_some_iff.1 hk).1; simp [this]

theorem St.own_of {r : Nat} {sp : List Value} (hk : k < L.length) (hl : xs.length = n * e) (hnc : n ≤ c) (hsp : sp.length = (c - n) * e) (h : St W w (L.set k (pt r (xs ++ sp)))) :
    St W w (L.set k (own (some ⟨r, 0, none⟩) n c e xs)) := by
  have hg : (L.set k (pt r (xs ++ sp)))[k]? = some (pt r (xs ++ sp)) := by simp [hk]
  have h2 := (h.focus hg).mono (B := own (some ⟨r, 0, none⟩) n c e xs) fun g hp => ⟨hl, .inr ⟨r, sp, rfl, hnc, hsp, hp⟩⟩
  have := h2.unfocus hg
  rwa [List.set_set] at this

theorem St.own_cells {r : Nat} (h : St W w L) (hk : L[k]? = some (own (some ⟨r, 0, none⟩) n c e xs)) (o : Nat) (ho : o < xs.length) :
    w.cell? ⟨r, o, none⟩ = xs[o]? ∧ w.frozen? ⟨r, o, none⟩ = false := by
  obtain ⟨hl, h0 | ⟨r', sp, hb, hnc, hsp, hs⟩⟩ := h.own_cases hk
  · cases h0.1
  · cases hb
    obtain ⟨h1, h2, _⟩ := hs.cell (o := o) (set_get hk)
    exact ⟨by rw [h1, List.getElem?_append_left ho], h2 (by simp; omega)⟩

theorem ixs_own {i : Int} {K : Addr → WK} (h : St W w L) (hk : L[k]? = some (own b n c e xs)) (hi : 0 ≤ i ∧ i < n)
    (hK : ∀ r, b = some ⟨r, 0, none⟩ → K ⟨r, i.toNat * e, none⟩ w) : ixs b n i e K w := by
  obtain ⟨hl, h0 | ⟨r, sp, hb, hnc, hsp, hs⟩⟩ := h.own_cases hk
  · omega
  · refine ⟨_, hb, hi, ?_⟩
    rw [add_mk, Nat.zero_add]
    exact hK r hb

theorem ld_own {r o : Nat} {v : Value} {K : VK} (h : St W w L) (hk : L[k]? = some (own (some ⟨r, 0, none⟩) n c e xs)) (hv : xs[o]? = some v) (hK : K v w) : ld ⟨r, o, none⟩ K w :=
  ⟨v, by rw [(h.own_cells hk o (List.getElem?_eq_some_iff.1 hv).1).1, hv], hK⟩

theorem Holds_own {r o : Nat} {ys : List Value} (h : St W w L) (hk : L[k]? = some (own (some ⟨r, 0, none⟩) n c e xs)) (hx : ∀ j v, ys[j]? = some v → xs[o + j]? = some v) : Holds w ⟨r, o, none⟩ ys := fun j v hj => by
  have := hx j v hj
  rw [add_mk, (h.own_cells hk _ (List.getElem?_eq_some_iff.1 this).1).1, this]

theorem ldN_own {r o m : Nat} {ys : List Value} {K : List Value → WK} (h : St W w L) (hk : L[k]? = some (own (some ⟨r, 0, none⟩) n c e xs)) (hl : ys.length = m) (hx : ∀ j v, ys[j]? = some v → xs[o + j]? = some v) (hK : K ys w) : ldN ⟨r, o, none⟩ m K w :=
  ⟨ys, hl, Holds_own h hk hx, hK⟩

theorem stN_own {r o : Nat} {ys : List Value} {K : WK} (h : St W w L) (hk : L[k]? = some (own (some ⟨r, 0, none⟩) n c e xs)) (ho : o + ys.length ≤ xs.length) (h1 : ∀ v ∈ ys, v.oneCell' = true)
    (hK : ∀ w', St W w' (L.set k (own (some ⟨r, 0, none⟩) n c e (over xs o ys))) → K w') : stN ⟨r, o, none⟩ ys K w := by
  obtain ⟨hl, h0 | ⟨r', sp, hb, hnc, hsp, hs⟩⟩ := h.own_cases hk
  · cases h0.1
  · cases hb
    refine stN_pt hs (set_get hk) (by simp; omega) h1 fun w' hw' => hK w' ?_
    rw [List.set_set] at hw'
    have e1 : over (xs ++ sp) o ys = over xs o ys ++ sp := by
      unfold over
      rw [List.take_append_of_le_length (by omega), List.drop_append_of_le_length (by omega)]
      simp
    rw [e1] at hw'
    exact St.own_of ((List.getElem?_eq_some_iff.1 hk).1) (by rw [over_length ho]; exact hl) hnc hsp hw'

theorem st_own {r o : Nat} {v : Value} {K : WK} (h : St W w L) (hk : L[k]? = some (own (some ⟨r, 0, none⟩) n c e xs)) (ho : o < xs.length) (h1 : v.oneCell' = true)
    (hK : ∀ w', St W w' (L.set k (own (some ⟨r, 0, none⟩) n c e (xs.set o v))) → K w') : st ⟨r, o, none⟩ v K w := by
  obtain ⟨hl, h0 | ⟨r', sp, hb, hnc, hsp, hs⟩⟩ := h.own_cases hk
  · cases h0.1
  · cases hb
    refine st_pt hs (set_get hk) (by simp; omega) h1 fun w' hw' => hK w' ?_
    rw [List.set_set, List.set_append_left _ _ ho] at hw'
    exact St.own_of ((List.getElem?_eq_some_iff.1 hk).1) (by simpa using hl) hnc hsp hw'

theorem Src_pt {r o m : Nat} {cs ys : List Value} {k' : Nat} (h : St W w L) (hk : L[k']? = some (pt r cs)) (hl : ys.length = m * e) (hx : ∀ j v, ys[j]? = some v → cs[o + j]? = some v) : Src w m e (some ⟨r, o, none⟩) ys :=
  ⟨hl, fun a ha => by cases ha; exact Holds_pt h hk hx⟩

theorem Src_own {m c' : Nat} {ys : List Value} {b' : Option Addr} {k' : Nat} (h : St W w L) (hk : L[k']? = some (own b' m c' e ys)) : Src w m e b' ys ∧ (b' = none → m = 0) := by
  obtain ⟨hl, h0 | ⟨r', sp, hb, hnc, hsp, hs⟩⟩ := h.own_cases hk
  · obtain ⟨rfl, rfl, rfl⟩ := h0; exact ⟨⟨hl, fun a ha => by cases ha⟩, fun _ => rfl⟩
  · subst hb
    refine ⟨⟨hl, fun a ha => ?_⟩, fun hn => by cases hn⟩
    cases ha
    exact Holds_pt hs (set_get hk) fun j v hj => by
      rw [Nat.zero_add, List.getElem?_append_left (List.getElem?_eq_some_iff.1 hj).1]; exact hj

theorem zeroCells_length (z : List Value) (m : Nat) : (Builtin.zeroCells ⟨z⟩ m).toList.length = m * z.length := by
  simp [Builtin.zeroCells]

theorem mul_sub_le (c n m e : Nat) : (c - n) * e - m * e = (c - (n + m)) * e := by
  rw [← Nat.sub_mul]; congr 1; omega

theorem appC_own {bytes m : Nat} {zero ys : List Value} {K : Option Addr → Nat → Nat → WK} (h : St W w L) (hk : L[k]? = some (own b n c e xs)) (hy : ys.length = m * e) (hz : zero.length = e)
    (hbound : (n + m) * bytes ≤ 140737488355328) (hmax : n + m ≤ 9223372036854775807) (h1 : ∀ v ∈ ys, v.oneCell' = true)
    (hK : ∀ b' c' w', St W w' (L.set k (own b' (n + m) c' e (xs ++ ys))) → K b' (n + m) c' w') : appC e bytes zero b n c m ys K w := by
  have hkl := (List.getElem?_eq_some_iff.1 hk).1
  obtain ⟨hl, h0⟩ := h.own_cases hk
  refine ⟨fun hle => ⟨fun a ha => ?_, fun hb => ?_⟩, fun hlt => ⟨hbound, by omega, xs, ?_, ?_, fun c' t hc' => ?_⟩⟩
  · rcases h0 with h0 | ⟨r, sp, hb, hnc, hsp, hs⟩
    · rw [h0.1] at ha; cases ha
    · subst hb; cases ha
      rw [add_mk, Nat.zero_add]
      have hroom : n * e + 0 + ys.length ≤ (xs ++ sp).length := by
        rw [List.length_append, hl, hsp, hy, Nat.add_zero, ← Nat.add_mul, ← Nat.add_mul]
        exact Nat.mul_le_mul_right e (by omega)
      obtain ⟨hc, hs2⟩ := St.setL ys (n * e) 0 hs (set_get hk) hroom h1
      refine ⟨hc, hK _ _ _ ?_⟩
      rw [List.set_set, Nat.add_zero] at hs2
      have e1 : over (xs ++ sp) (n * e) ys = (xs ++ ys) ++ sp.drop ys.length := by
        unfold over
        rw [← hl, List.take_left' rfl, List.drop_append, List.drop_of_length_le (by omega)]
        simp
      rw [e1] at hs2
      refine St.own_of hkl (by rw [List.length_append, hl, hy, Nat.add_mul]) hle ?_ hs2
      rw [List.length_drop, hsp, hy]
      exact mul_sub_le c n m e
  · rcases h0 with h0 | ⟨r, sp, hb', hnc, hsp, hs⟩
    · obtain ⟨rfl, rfl, rfl⟩ := h0
      have hm : m = 0 := by omega
      subst hm
      have hye : ys = [] := List.eq_nil_of_length_eq_zero (by simpa using hy)
      have hxe : xs = [] := List.eq_nil_of_length_eq_zero (by simpa using hl)
      subst hye hxe
      refine hK _ _ _ ?_
      rw [List.append_nil, set_same hk]; exact h
    · rw [hb'] at hb; cases hb
  · rcases h0 with h0 | ⟨r, sp, hb, hnc, hsp, hs⟩
    · obtain ⟨rfl, rfl, rfl⟩ := h0; exact ⟨hl, fun a ha => by cases ha⟩
    · subst hb
      refine ⟨hl, fun a ha => ?_⟩
      cases ha
      exact Holds_pt hs (set_get hk) fun j v hj => by
        rw [Nat.zero_add, List.getElem?_append_left (List.getElem?_eq_some_iff.1 hj).1]; exact hj
  · intro hb
    rcases h0 with h0 | ⟨r, sp, hb', _⟩
    · exact h0.2.1
    · rw [hb'] at hb; cases hb
  · refine hK _ _ _ ?_
    have hnew := (h.focus hk).drop.drew.new ((xs ++ ys) ++ (Builtin.zeroCells ⟨zero⟩ (c' - (n + m))).toList) t
    rw [World.size_drew] at hnew
    have earr : ((xs ++ ys).toArray ++ Builtin.zeroCells ⟨zero⟩ (c' - (n + m)) : Array Value) = ⟨(xs ++ ys) ++ (Builtin.zeroCells ⟨zero⟩ (c' - (n + m))).toList⟩ := by
      apply Array.ext'; simp
    rw [earr]
    refine St.unfocus (A := own b n c e xs) ?_ hk
    exact hnew.mono fun g hp => ⟨by rw [List.length_append, hl, hy, Nat.add_mul], .inr ⟨_, _, rfl, hc', by rw [zeroCells_length, hz], hp⟩⟩

theorem appSl_own {bytes m : Nat} {zero ys : List Value} {b' : Option Addr} {K : Option Addr → Nat → Nat → WK} (h : St W w L) (hk : L[k]? = some (own b n c e xs)) (hsrc : Src w m e b' ys) (hb' : b' = none → m = 0) (hz : zero.length = e)
    (hbound : (n + m) * bytes ≤ 140737488355328) (hmax : n + m ≤ 9223372036854775807) (h1 : ∀ v ∈ ys, v.oneCell' = true)
    (hK : ∀ b' c' w', St W w' (L.set k (own b' (n + m) c' e (xs ++ ys))) → K b' (n + m) c' w') : appSl e bytes zero b n c b' m K w :=
  ⟨ys, hsrc, hb', appC_own h hk hsrc.1 hz hbound hmax h1 hK⟩

theorem strCells_one (s : ByteArray) : ∀ v ∈ strCells s, v.oneCell' = true := by
  intro v hv
  simp only [strCells, List.mem_map] at hv
  obtain ⟨x, _, rfl⟩ := hv
  rfl

theorem strCells_length (s : ByteArray) : (strCells s).length = s.size := by simp [strCells]

theorem appStr_own {s : ByteArray} {K : Option Addr → Nat → Nat → WK} {xs : List Value} (h : St W w L) (hk : L[k]? = some (own b n c 1 xs)) (hbound : n + s.size ≤ 140737488355328)
    (hK : ∀ b' c' w', St W w' (L.set k (own b' (n + s.size) c' 1 (xs ++ strCells s))) → K b' (n + s.size) c' w') : appStr b n c s K w :=
  appC_own h hk (by rw [strCells_length]; omega) rfl (by omega) (by omega) (strCells_one s) hK

theorem mkSl_own {bytes : Nat} {zero : List Value} {len cap : Int} {K : Option Addr → Nat → Nat → WK} (h : St W w L) (h0 : 0 ≤ len ∧ len ≤ cap ∧ cap ≤ 9223372036854775807 ∧ cap * bytes ≤ 281474976710656)
    (hK : ∀ r w', St W w' (own (some ⟨r, 0, none⟩) len.toNat cap.toNat zero.length (Builtin.zeroCells ⟨zero⟩ len.toNat).toList :: L) → K (some ⟨r, 0, none⟩) len.toNat cap.toNat w') : mkSl bytes zero len cap K w := by
  refine ⟨h0, fun t => hK _ _ ?_⟩
  have hnew := h.new (Builtin.zeroCells ⟨zero⟩ cap.toNat).toList t
  refine St.mono hnew fun g hp => ⟨zeroCells_length _ _, .inr ⟨_, (Builtin.zeroCells ⟨zero⟩ (cap.toNat - len.toNat)).toList, rfl, by omega, zeroCells_length _ _, ?_⟩⟩
  have hsplit : (Builtin.zeroCells ⟨zero⟩ cap.toNat).toList = (Builtin.zeroCells ⟨zero⟩ len.toNat).toList ++ (Builtin.zeroCells ⟨zero⟩ (cap.toNat - len.toNat)).toList := by
    have key : ∀ p q, (Builtin.zeroCells ⟨zero⟩ (p + q)).toList = (Builtin.zeroCells ⟨zero⟩ p).toList ++ (Builtin.zeroCells ⟨zero⟩ q).toList := by
      intro p q
      simp only [Builtin.zeroCells, Array.toList_map, Array.toList_range]
      rw [Nat.add_mul, List.range_add, List.map_append, List.map_map]
      congr 1
      apply List.map_congr_left
      intro j _
      simp only [Function.comp]
      congr 1
      rw [Nat.add_comm, Nat.add_mul_mod_self_right]
    rw [← key]; congr 2; omega
  rw [← hsplit]; exact hp

end
end Go.Sep
