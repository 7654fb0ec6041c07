/- Arguments opened: flat cells, slices of flat elements; and shut again. -/
import Derived.Test.YtidhimamegfdaaaDoorRo
import Derived.ProofKit
import Derived.OpenShut
import Derived.ChangeOld
import Derived.SizedLaws
import Derived.Carry
import Derived.Deep.Slices
namespace Go.Sep
open Go.Den Go.RowKit Go.ChangeShapes Go.WideShapes
set_option linter.unusedSimpArgs false
set_option linter.unusedVariables false

/-- A cell's kind. -/
inductive CK where
  | i (k : IntKind)
  | b
  | s
deriving DecidableEq

def CK.is : CK → Value → Prop
  | .i k, v => ∃ n, v = .int k n ∧ (Lit.int k n).wf = true
  | .b, v => ∃ x, v = .bool x
  | .s, v => ∃ x, v = .string x ∧ x.size ≤ reachBytes

/-- The cells from 'o' on are of these kinds. -/
def Typed (ks : List CK) (cs : List Value) (o : Nat) : Prop := ∀ j k, ks[j]? = some k → ∃ v, cs[o + j]? = some v ∧ k.is v

def flatFs (P : Program) (f : TypeId → Option (List CK)) : Nat → List Field → Option (List CK)
  | _, [] => some []
  | o, fd :: r => match f fd.type with
    | some a => if fd.offset = o ∧ P.cellsOf fd.type = a.length then (flatFs P f (o + a.length) r).map (a ++ ·) else none
    | none => none

/-- The kinds of a type's cells, if the type is flat. -/
def flat (P : Program) : Nat → TypeId → Option (List CK)
  | 0, _ => none
  | n + 1, t => match P.underlying t with
    | some (.int k) => some [.i k]
    | some .bool => some [.b]
    | some .string => some [.s]
    | some (.struct fs) => flatFs P (flat P n) 0 fs.toList
    | _ => none

section
variable {H : Type} {enc : TypeId × Value → H} {P : Program} {w : World} {base : Nat} {spare : Nat → Bool} {held : Bool}

theorem flatFs_sound {f : TypeId → Option (List CK)} {m : Nat} {cs : List Value}
    (hf : ∀ t ks cs x, f t = some ks → DataW.trod enc P w base spare held m t cs = some x → (∀ n ∈ x.1.weights P t, n ≤ reachBytes) → Typed ks cs 0) :
    ∀ (fs : List Field) (o : Nat) (ks : List CK) (xs : List (DataW H × List MemPlace)), flatFs P f o fs = some ks →
      (∀ (i : Nat) (fd : Field), fs[i]? = some fd → DataW.trod enc P w base spare held m fd.type ((cs.drop fd.offset).take (P.cellsOf fd.type)) = xs[i]?) → xs.length = fs.length →
      (∀ n ∈ DataW.weightsEach P (fs.map (·.type)) (xs.map (·.1)), n ≤ reachBytes) → Typed ks cs o
  | [], o, ks, xs, h, _, _, _ => by
    simp only [flatFs, Option.some.injEq] at h; subst h
    intro j k hj; simp at hj
  | fd :: r, o, ks, [], h, hx, hl, hw => by simp at hl
  | fd :: r, o, ks, x :: xs, h, hx, hl, hw => by
    simp only [flatFs] at h
    cases ha : f fd.type with
    | none => simp [ha] at h
    | some a =>
      simp only [ha] at h
      split at h
      · rename_i hc
        cases hb : flatFs P f (o + a.length) r with
        | none => simp [hb] at h
        | some b =>
          simp only [hb, Option.map_some, Option.some.injEq] at h
          subst h
          simp only [List.map_cons, DataW.weightsEach, List.mem_append] at hw
          have h1 := hf fd.type a _ x ha (by have := hx 0 fd rfl; simpa using this) (fun n hn => hw n (.inl hn))
          have h2 := flatFs_sound hf r (o + a.length) b xs hb (fun i g hg => by have := hx (i + 1) g (by simpa using hg); simpa using this) (by simpa using hl) (fun n hn => hw n (.inr hn))
          intro j k hj
          by_cases hja : j < a.length
          · rw [List.getElem?_append_left hja] at hj
            obtain ⟨v, hv, hk⟩ := h1 j k hj
            refine ⟨v, ?_, hk⟩
            rw [hc.1, hc.2, Nat.zero_add, List.getElem?_take_of_lt hja, List.getElem?_drop] at hv
            exact hv
          · rw [List.getElem?_append_right (by omega)] at hj
            obtain ⟨v, hv, hk⟩ := h2 (j - a.length) k hj
            refine ⟨v, ?_, hk⟩
            rw [show o + j = o + a.length + (j - a.length) from by omega]; exact hv
      · cases h

theorem flat_sound : ∀ (f : Nat) (m : Nat) (t : TypeId) (ks : List CK) (cs : List Value) (x : DataW H × List MemPlace), flat P f t = some ks → DataW.trod enc P w base spare held m t cs = some x →
    (∀ n ∈ x.1.weights P t, n ≤ reachBytes) → Typed ks cs 0
  | 0, _, _, _, _, _, h, _, _ => by simp [flat] at h
  | f + 1, m, t, ks, cs, x, h, hx, hw => by
    unfold flat at h
    split at h
    · rename_i k ht
      cases h
      obtain ⟨n, rfl, rfl, hwf⟩ := DataW.trod_int ht hx
      intro j k' hj
      cases j with
      | zero => simp at hj; subst hj; exact ⟨_, rfl, n, rfl, hwf⟩
      | succ j => simp at hj
    · rename_i ht
      cases h
      obtain ⟨n, rfl, rfl⟩ := DataW.trod_bool ht hx
      intro j k' hj
      cases j with
      | zero => simp at hj; subst hj; exact ⟨_, rfl, n, rfl⟩
      | succ j => simp at hj
    · rename_i ht
      cases h
      obtain ⟨n, rfl, rfl, _⟩ := DataW.trod_string ht hx
      intro j k' hj
      cases j with
      | zero => simp at hj; subst hj; exact ⟨_, rfl, n, rfl, by have := hw n.data.toList.length (by simp [DataW.weights]); simpa using this⟩
      | succ j => simp at hj
    · rename_i fs ht
      obtain ⟨xs, n, rfl, rfl, hl, hlen, hf⟩ := DataW.trod_struct ht hx
      refine flatFs_sound (m := n) (fun t ks cs x h1 h2 h3 => flat_sound f n t ks cs x h1 h2 h3) fs.toList 0 ks xs h (fun i fd hi => hf i fd (by simpa using hi)) (by simpa using hlen) (fun n hn => hw n ?_)
      simp only [DataW.weights, ht]
      exact hn
    · cases h

/-- All elements are of these kinds. -/
def Elems (ks : List CK) (n : Nat) (xs : List Value) : Prop := ∀ i, i < n → Typed ks xs (i * ks.length)

theorem weightsAll_mem {e : TypeId} : ∀ {ds : List (DataW H)} {d : DataW H}, d ∈ ds → ∀ n ∈ d.weights P e, n ∈ DataW.weightsAll P e ds
  | [], d, h, _, _ => by simp at h
  | d0 :: ds, d, h, n, hn => by
    simp only [DataW.weightsAll, List.mem_append]
    rcases List.mem_cons.1 h with h | h
    · subst h; exact .inl hn
    · exact .inr (weightsAll_mem h n hn)

/-- A slice of flat elements, opened. -/
theorem open_flats {t e : TypeId} {f : Nat} {ks : List CK} {v : Value} {r : Reach} {b0 : Nat} {d : DataW H} {ps : List MemPlace} (ht : P.underlying t = some (.slice e)) (he : flat P f e = some ks) (hc : P.cellsOf e = ks.length)
    (hval : Value.okWide P w r b0 t v) (hd : DataW.Trod enc P w base spare held t v d ps) (hw : ∀ n ∈ d.weights P t, n ≤ reachBytes) :
    ∃ b n c xs, v = .slice b n c ∧ Ro w b n ks.length xs ∧ Elems ks n xs ∧ n * P.bytesOf e ≤ reachBytes ∧ n ≤ maxLen := by
  obtain ⟨b, n, c, rfl⟩ := okWide_slice ht hval
  obtain ⟨m, hm⟩ := hd
  rcases Go.Deep.open_slice ht hm with ⟨hcs, hx⟩ | ⟨a, len, cap, k, n', D, Pl, hcs, hb, hl, hmx, hk, hx, hcell⟩
  · simp [Value.cells] at hcs
    obtain ⟨rfl, rfl, rfl⟩ := hcs
    refine ⟨none, 0, 0, [], rfl, ⟨by simp, fun _ => rfl, fun a h => by cases h⟩, fun i h => by omega, by simp, by decide⟩
  · simp [Value.cells] at hcs
    obtain ⟨rfl, rfl, rfl⟩ := hcs
    obtain ⟨hx, _⟩ := Prod.mk.inj hx
    subst hx
    have hlk : n ≤ k := by rw [hk]; split <;> omega
    simp only [DataW.weights, ht] at hw
    have hcl : ∀ i, i < n → ∀ j, j < ks.length → ∃ v, w.cell? (a.add (i * ks.length + j)) = some v := fun i hi j hj => by
      obtain ⟨cs', h1, h2⟩ := hcell i (by omega)
      obtain ⟨_, h3, h4⟩ := World.cells?_some h1
      rw [hc] at h3 h4
      refine ⟨cs'[j], ?_⟩
      rw [← add_add, h4 j hj]; simp [h3, hj]
    have hget : ∀ j, j < n * ks.length → ∃ v, w.cell? (a.add j) = some v := fun j hj => by
      have hpos : 0 < ks.length := by
        cases hks : ks.length with
        | zero => rw [hks] at hj; omega
        | succ x => omega
      have h1 : j / ks.length < n := by rw [Nat.div_lt_iff_lt_mul hpos]; exact hj
      have h2 : j % ks.length < ks.length := Nat.mod_lt _ hpos
      obtain ⟨v, hv⟩ := hcl _ h1 _ h2
      refine ⟨v, ?_⟩
      rw [← hv]; congr 2
      have := Nat.div_add_mod j ks.length
      rw [Nat.mul_comm] at this; omega
    refine ⟨some a, n, c, (List.range (n * ks.length)).map fun j => (w.cell? (a.add j)).getD (.bool false), rfl, ⟨by simp, fun h => (by cases h), fun a' ha' j v hv => ?_⟩, fun i hi j k' hk' => ?_, ?_, by omega⟩
    · cases ha'
      rw [List.getElem?_map, Option.map_eq_some_iff] at hv
      obtain ⟨j', hj', rfl⟩ := hv
      obtain ⟨hlt, rfl⟩ := List.getElem?_eq_some_iff.1 hj'
      simp only [List.length_range] at hlt
      simp only [List.getElem_range]
      obtain ⟨v, hv⟩ := hget j hlt
      rw [hv]; rfl
    · obtain ⟨cs', h1, h2⟩ := hcell i (by omega)
      obtain ⟨_, h3, h4⟩ := World.cells?_some h1
      rw [hc] at h3 h4
      have hj : j < ks.length := (List.getElem?_eq_some_iff.1 hk').1
      have h5 := flat_sound f n' e ks cs' (D i, Pl i) he h2 (fun x hx => hw x (by
        simp only [List.mem_cons, List.mem_append]
        refine .inr (.inl (weightsAll_mem ?_ x hx))
        exact List.mem_map.2 ⟨i, List.mem_range.2 hi, rfl⟩))
      obtain ⟨v, hv, hkv⟩ := h5 j k' hk'
      refine ⟨v, ?_, hkv⟩
      have hlt : i * ks.length + j < n * ks.length := by
        have : (i + 1) * ks.length ≤ n * ks.length := Nat.mul_le_mul_right _ hi
        rw [Nat.add_mul] at this; omega
      rw [List.getElem?_map, List.getElem?_range hlt, Option.map_some, ← add_add, hc] at *
      rw [Nat.zero_add] at hv
      rw [h4 j hj, hv]; rfl
    · have := hw _ (List.mem_cons_self)
      simp only [List.length_map, List.length_range] at this
      exact Nat.le_trans (Nat.mul_le_mul_right _ (by omega)) this

/-- A flat struct, opened. -/
theorem open_flat {t : TypeId} {fs : Array Field} {f : Nat} {ks : List CK} {v : Value} {r : Reach} {b0 : Nat} {d : DataW H} {ps : List MemPlace} (ht : P.underlying t = some (.struct fs)) (he : flat P f t = some ks) (hc : P.cellsOf t = ks.length)
    (hval : Value.okWide P w r b0 t v) (hd : DataW.Trod enc P w base spare held t v d ps) (hw : ∀ n ∈ d.weights P t, n ≤ reachBytes) :
    ∃ cs : List Value, v = .agg ⟨cs⟩ ∧ cs.length = ks.length ∧ Typed ks cs 0 := by
  obtain ⟨cs, rfl, hl⟩ := okWide_struct ht hval
  obtain ⟨m, hm⟩ := hd
  refine ⟨cs.toList, rfl, by simp [hl, hc], ?_⟩
  exact flat_sound f m t ks cs.toList _ he (by simpa [Value.cells] using hm) hw

/-- Typed elements as a list of what they are. -/
theorem elems_list {α : Type} {ks : List CK} {n : Nat} {xs : List Value} (f : α → List Value) (q : α → Prop) (hf : ∀ a, (f a).length = ks.length)
    (dec : ∀ o, Typed ks xs o → ∃ a, q a ∧ ∀ j, j < ks.length → xs[o + j]? = (f a)[j]?) (he : Elems ks n xs) (hl : xs.length = n * ks.length) : ∃ l : List α, l.length = n ∧ xs = l.flatMap f ∧ ∀ a ∈ l, q a := by
  have key : ∀ m, m ≤ n → ∃ l : List α, l.length = m ∧ xs.take (m * ks.length) = l.flatMap f ∧ ∀ a ∈ l, q a := by
    intro m
    induction m with
    | zero => exact fun _ => ⟨[], rfl, by simp, by simp⟩
    | succ m ih =>
      intro hm
      obtain ⟨l, h1, h2, h3⟩ := ih (by omega)
      obtain ⟨a, ha, hc⟩ := dec _ (he m (by omega))
      refine ⟨l ++ [a], by simp [h1], ?_, fun b hb => ?_⟩
      · rw [List.flatMap_append, ← h2, Nat.add_mul, Nat.one_mul, List.take_add]
        congr 1
        simp only [List.flatMap_cons, List.flatMap_nil, List.append_nil]
        apply List.ext_getElem?
        intro j
        by_cases hj : j < ks.length
        · rw [List.getElem?_take_of_lt hj, List.getElem?_drop]; exact hc j hj
        · have h5 : ks.length ≤ j := by omega
          rw [List.getElem?_eq_none (by simp; omega), List.getElem?_eq_none (by rw [hf]; exact h5)]
      · rcases List.mem_append.1 hb with hb | hb
        · exact h3 b hb
        · simp at hb; subst hb; exact ha
  obtain ⟨l, h1, h2, h3⟩ := key n (Nat.le_refl n)
  rw [List.take_of_length_le (by omega)] at h2
  exact ⟨l, h1, h2, h3⟩

/-- A slice of strings. -/
theorem elems_str {n : Nat} {xs : List Value} (he : Elems [.s] n xs) (hl : xs.length = n * 1) : ∃ ss : List ByteArray, ss.length = n ∧ xs = ss.map .string ∧ ∀ s ∈ ss, s.size ≤ reachBytes := by
  obtain ⟨l, h1, h2, h3⟩ := elems_list (fun s => [.string s]) (fun s => s.size ≤ reachBytes) (fun _ => rfl) (fun o ht => by
    obtain ⟨v, hv, s, rfl, hs⟩ := ht 0 .s rfl
    refine ⟨s, hs, fun j hj => ?_⟩
    have : j = 0 := by simp at hj; omega
    subst this; exact hv) he hl
  refine ⟨l, h1, ?_, h3⟩
  rw [h2]
  clear h1 h2 h3
  induction l with
  | nil => rfl
  | cons a l ih => simp [ih]

/-- All arguments read behind the call as they did before. -/
theorem Below.trodAll (hl : laidOutB P = true) {W W' : World} (hb : Below W.heap.size W W') :
    ∀ {ts : List TypeId} {vs : List Value} {ds : List (DataW H)} {ps : List MemPlace}, ts.all (fun t => P.readableRec t && decide (t < P.types.size)) = true →
    DataW.TrodAll enc P W 0 (fun _ => true) true ts vs ds ps → DataW.TrodAll enc P W' 0 (fun b => decide (b < W.heap.size)) true ts vs ds ps
  | [], vs, ds, ps, _, h => by
    cases vs <;> cases ds <;> simp [DataW.TrodAll] at h ⊢
    exact h
  | t :: ts, vs, ds, ps, hr, h => by
    simp only [List.all_cons, Bool.and_eq_true, decide_eq_true_eq] at hr
    have hlt := DataW.TrodAll.lt h
    obtain ⟨v, vs', d, ds', p, q, rfl, rfl, rfl, h1, h2⟩ := trodAll_cons h
    exact ⟨p, q, Go.RowKit.Below.trod hl hr.1.1 hr.1.2 h1 hb (fun x hx => hlt x (by simp [hx])), Below.trodAll hl hb hr.2 h2, rfl⟩
end
end Go.Sep
