/- LaA: Open, La0, LaTorn, La1, merged: part of the proof: see the last text. -/
import Derived.Test.YtidhimamegfdaaaDoorPlatA
import Derived.ProofKit
import Derived.OpenShut
import Derived.ChangeOld
import Derived.SizedLaws
import Derived.Carry
import Derived.Deep.Slices
/- Arguments opened: flat cells, slices of flat elements; and shut again. -/
namespace Go.Sep
open Go.Den Go.RowKit Go.ChangeShapes Go.WideShapes
set_option linter.unusedSimpArgs false
set_option linter.unusedVariables false

/-- A cell's kind. -/
inductive CK where
  | i (k : IntKind)
  | b
  | s
deriving DecidableEq

def CK.is : CK → Value → Prop
  | .i k, v => ∃ n, v = .int k n ∧ (Lit.int k n).wf = true
  | .b, v => ∃ x, v = .bool x
  | .s, v => ∃ x, v = .string x ∧ x.size ≤ reachBytes

/-- The cells from 'o' on are of these kinds. -/
def Typed (ks : List CK) (cs : List Value) (o : Nat) : Prop := ∀ j k, ks[j]? = some k → ∃ v, cs[o + j]? = some v ∧ k.is v

def flatFs (P : Program) (f : TypeId → Option (List CK)) : Nat → List Field → Option (List CK)
  | _, [] => some []
  | o, fd :: r => match f fd.type with
    | some a => if fd.offset = o ∧ P.cellsOf fd.type = a.length then (flatFs P f (o + a.length) r).map (a ++ ·) else none
    | none => none

/-- The kinds of a type's cells, if the type is flat. -/
def flat (P : Program) : Nat → TypeId → Option (List CK)
  | 0, _ => none
  | n + 1, t => match P.underlying t with
    | some (.int k) => some [.i k]
    | some .bool => some [.b]
    | some .string => some [.s]
    | some (.struct fs) => flatFs P (flat P n) 0 fs.toList
    | _ => none

section
variable {H : Type} {enc : TypeId × Value → H} {P : Program} {w : World} {base : Nat} {spare : Nat → Bool} {held : Bool}

theorem flatFs_sound {f : TypeId → Option (List CK)} {m : Nat} {cs : List Value}
    (hf : ∀ t ks cs x, f t = some ks → DataW.trod enc P w base spare held m t cs = some x → (∀ n ∈ x.1.weights P t, n ≤ reachBytes) → Typed ks cs 0) :
    ∀ (fs : List Field) (o : Nat) (ks : List CK) (xs : List (DataW H × List MemPlace)), flatFs P f o fs = some ks →
      (∀ (i : Nat) (fd : Field), fs[i]? = some fd → DataW.trod enc P w base spare held m fd.type ((cs.drop fd.offset).take (P.cellsOf fd.type)) = xs[i]?) → xs.length = fs.length →
      (∀ n ∈ DataW.weightsEach P (fs.map (·.type)) (xs.map (·.1)), n ≤ reachBytes) → Typed ks cs o
  | [], o, ks, xs, h, _, _, _ => by
    simp only [flatFs, Option.some.injEq] at h; subst h
    intro j k hj; simp at hj
  | fd :: r, o, ks, [], h, hx, hl, hw => by simp at hl
  | fd :: r, o, ks, x :: xs, h, hx, hl, hw => by
    simp only [flatFs] at h
    cases ha : f fd.type with
    | none => simp [ha] at h
    | some a =>
      simp only [ha] at h
      split at h
      · rename_i hc
        cases hb : flatFs P f (o + a.length) r with
        | none => simp [hb] at h
        | some b =>
          simp only [hb, Option.map_some, Option.some.injEq] at h
          subst h
          simp only [List.map_cons, DataW.weightsEach, List.mem_append] at hw
          have h1 := hf fd.type a _ x ha (by have := hx 0 fd rfl; simpa using this) (fun n hn => hw n (.inl hn))
          have h2 := flatFs_sound hf r (o + a.length) b xs hb (fun i g hg => by have := hx (i + 1) g (by simpa using hg); simpa using this) (by simpa using hl) (fun n hn => hw n (.inr hn))
          intro j k hj
          by_cases hja : j < a.length
          · rw [List.getElem?_append_left hja] at hj
            obtain ⟨v, hv, hk⟩ := h1 j k hj
            refine ⟨v, ?_, hk⟩
            rw [hc.1, hc.2, Nat.zero_add, List.getElem?_take_of_lt hja, List.getElem?_drop] at hv
            exact hv
          · rw [List.getElem?_append_right (by omega)] at hj
            obtain ⟨v, hv, hk⟩ := h2 (j - a.length) k hj
            refine ⟨v, ?_, hk⟩
            rw [show o + j = o + a.length + (j - a.length) from by omega]; exact hv
      · cases h

theorem flat_sound : ∀ (f : Nat) (m : Nat) (t : TypeId) (ks : List CK) (cs : List Value) (x : DataW H × List MemPlace), flat P f t = some ks → DataW.trod enc P w base spare held m t cs = some x →
    (∀ n ∈ x.1.weights P t, n ≤ reachBytes) → Typed ks cs 0
  | 0, _, _, _, _, _, h, _, _ => by simp [flat] at h
  | f + 1, m, t, ks, cs, x, h, hx, hw => by
    unfold flat at h
    split at h
    · rename_i k ht
      cases h
      obtain ⟨n, rfl, rfl, hwf⟩ := DataW.trod_int ht hx
      intro j k' hj
      cases j with
      | zero => simp at hj; subst hj; exact ⟨_, rfl, n, rfl, hwf⟩
      | succ j => simp at hj
    · rename_i ht
      cases h
      obtain ⟨n, rfl, rfl⟩ := DataW.trod_bool ht hx
      intro j k' hj
      cases j with
      | zero => simp at hj; subst hj; exact ⟨_, rfl, n, rfl⟩
      | succ j => simp at hj
    · rename_i ht
      cases h
      obtain ⟨n, rfl, rfl, _⟩ := DataW.trod_string ht hx
      intro j k' hj
      cases j with
      | zero => simp at hj; subst hj; exact ⟨_, rfl, n, rfl, by have := hw n.data.toList.length (by simp [DataW.weights]); simpa using this⟩
      | succ j => simp at hj
    · rename_i fs ht
      obtain ⟨xs, n, rfl, rfl, hl, hlen, hf⟩ := DataW.trod_struct ht hx
      refine flatFs_sound (m := n) (fun t ks cs x h1 h2 h3 => flat_sound f n t ks cs x h1 h2 h3) fs.toList 0 ks xs h (fun i fd hi => hf i fd (by simpa using hi)) (by simpa using hlen) (fun n hn => hw n ?_)
      simp only [DataW.weights, ht]
      exact hn
    · cases h

/-- All elements are of these kinds. -/
def Elems (ks : List CK) (n : Nat) (xs : List Value) : Prop := ∀ i, i < n → Typed ks xs (i * ks.length)

theorem weightsAll_mem {e : TypeId} : ∀ {ds : List (DataW H)} {d : DataW H}, d ∈ ds → ∀ n ∈ d.weights P e, n ∈ DataW.weightsAll P e ds
  | [], d, h, _, _ => by simp at h
  | d0 :: ds, d, h, n, hn => by
    simp only [DataW.weightsAll, List.mem_append]
    rcases List.mem_cons.1 h with h | h
    · subst h; exact .inl hn
    · exact .inr (weightsAll_mem h n hn)

/-- A slice of flat elements, opened. -/
theorem open_flats {t e : TypeId} {f : Nat} {ks : List CK} {v : Value} {r : Reach} {b0 : Nat} {d : DataW H} {ps : List MemPlace} (ht : P.underlying t = some (.slice e)) (he : flat P f e = some ks) (hc : P.cellsOf e = ks.length)
    (hval : Value.okWide P w r b0 t v) (hd : DataW.Trod enc P w base spare held t v d ps) (hw : ∀ n ∈ d.weights P t, n ≤ reachBytes) :
    ∃ b n c xs, v = .slice b n c ∧ Ro w b n ks.length xs ∧ Elems ks n xs ∧ n * P.bytesOf e ≤ reachBytes ∧ n ≤ maxLen := by
  obtain ⟨b, n, c, rfl⟩ := okWide_slice ht hval
  obtain ⟨m, hm⟩ := hd
  rcases Go.Deep.open_slice ht hm with ⟨hcs, hx⟩ | ⟨a, len, cap, k, n', D, Pl, hcs, hb, hl, hmx, hk, hx, hcell⟩
  · simp [Value.cells] at hcs
    obtain ⟨rfl, rfl, rfl⟩ := hcs
    refine ⟨none, 0, 0, [], rfl, ⟨by simp, fun _ => rfl, fun a h => by cases h⟩, fun i h => by omega, by simp, by decide⟩
  · simp [Value.cells] at hcs
    obtain ⟨rfl, rfl, rfl⟩ := hcs
    obtain ⟨hx, _⟩ := Prod.mk.inj hx
    subst hx
    have hlk : n ≤ k := by rw [hk]; split <;> omega
    simp only [DataW.weights, ht] at hw
    have hcl : ∀ i, i < n → ∀ j, j < ks.length → ∃ v, w.cell? (a.add (i * ks.length + j)) = some v := fun i hi j hj => by
      obtain ⟨cs', h1, h2⟩ := hcell i (by omega)
      obtain ⟨_, h3, h4⟩ := World.cells?_some h1
      rw [hc] at h3 h4
      refine ⟨cs'[j], ?_⟩
      rw [← add_add, h4 j hj]; simp [h3, hj]
    have hget : ∀ j, j < n * ks.length → ∃ v, w.cell? (a.add j) = some v := fun j hj => by
      have hpos : 0 < ks.length := by
        cases hks : ks.length with
        | zero => rw [hks] at hj; omega
        | succ x => omega
      have h1 : j / ks.length < n := by rw [Nat.div_lt_iff_lt_mul hpos]; exact hj
      have h2 : j % ks.length < ks.length := Nat.mod_lt _ hpos
      obtain ⟨v, hv⟩ := hcl _ h1 _ h2
      refine ⟨v, ?_⟩
      rw [← hv]; congr 2
      have := Nat.div_add_mod j ks.length
      rw [Nat.mul_comm] at this; omega
    refine ⟨some a, n, c, (List.range (n * ks.length)).map fun j => (w.cell? (a.add j)).getD (.bool false), rfl, ⟨by simp, fun h => (by cases h), fun a' ha' j v hv => ?_⟩, fun i hi j k' hk' => ?_, ?_, by omega⟩
    · cases ha'
      rw [List.getElem?_map, Option.map_eq_some_iff] at hv
      obtain ⟨j', hj', rfl⟩ := hv
      obtain ⟨hlt, rfl⟩ := List.getElem?_eq_some_iff.1 hj'
      simp only [List.length_range] at hlt
      simp only [List.getElem_range]
      obtain ⟨v, hv⟩ := hget j hlt
      rw [hv]; rfl
    · obtain ⟨cs', h1, h2⟩ := hcell i (by omega)
      obtain ⟨_, h3, h4⟩ := World.cells?_some h1
      rw [hc] at h3 h4
      have hj : j < ks.length := (List.getElem?_eq_some_iff.1 hk').1
      have h5 := flat_sound f n' e ks cs' (D i, Pl i) he h2 (fun x hx => hw x (by
        simp only [List.mem_cons, List.mem_append]
        refine .inr (.inl (weightsAll_mem ?_ x hx))
        exact List.mem_map.2 ⟨i, List.mem_range.2 hi, rfl⟩))
      obtain ⟨v, hv, hkv⟩ := h5 j k' hk'
      refine ⟨v, ?_, hkv⟩
      have hlt : i * ks.length + j < n * ks.length := by
        have : (i + 1) * ks.length ≤ n * ks.length := Nat.mul_le_mul_right _ hi
        rw [Nat.add_mul] at this; omega
      rw [List.getElem?_map, List.getElem?_range hlt, Option.map_some, ← add_add, hc] at *
      rw [Nat.zero_add] at hv
      rw [h4 j hj, hv]; rfl
    · have := hw _ (List.mem_cons_self)
      simp only [List.length_map, List.length_range] at this
      exact Nat.le_trans (Nat.mul_le_mul_right _ (by omega)) this

/-- A flat struct, opened. -/
theorem open_flat {t : TypeId} {fs : Array Field} {f : Nat} {ks : List CK} {v : Value} {r : Reach} {b0 : Nat} {d : DataW H} {ps : List MemPlace} (ht : P.underlying t = some (.struct fs)) (he : flat P f t = some ks) (hc : P.cellsOf t = ks.length)
    (hval : Value.okWide P w r b0 t v) (hd : DataW.Trod enc P w base spare held t v d ps) (hw : ∀ n ∈ d.weights P t, n ≤ reachBytes) :
    ∃ cs : List Value, v = .agg ⟨cs⟩ ∧ cs.length = ks.length ∧ Typed ks cs 0 := by
  obtain ⟨cs, rfl, hl⟩ := okWide_struct ht hval
  obtain ⟨m, hm⟩ := hd
  refine ⟨cs.toList, rfl, by simp [hl, hc], ?_⟩
  exact flat_sound f m t ks cs.toList _ he (by simpa [Value.cells] using hm) hw

/-- Typed elements as a list of what they are. -/
theorem elems_list {α : Type} {ks : List CK} {n : Nat} {xs : List Value} (f : α → List Value) (q : α → Prop) (hf : ∀ a, (f a).length = ks.length)
    (dec : ∀ o, Typed ks xs o → ∃ a, q a ∧ ∀ j, j < ks.length → xs[o + j]? = (f a)[j]?) (he : Elems ks n xs) (hl : xs.length = n * ks.length) : ∃ l : List α, l.length = n ∧ xs = l.flatMap f ∧ ∀ a ∈ l, q a := by
  have key : ∀ m, m ≤ n → ∃ l : List α, l.length = m ∧ xs.take (m * ks.length) = l.flatMap f ∧ ∀ a ∈ l, q a := by
    intro m
    induction m with
    | zero => exact fun _ => ⟨[], rfl, by simp, by simp⟩
    | succ m ih =>
      intro hm
      obtain ⟨l, h1, h2, h3⟩ := ih (by omega)
      obtain ⟨a, ha, hc⟩ := dec _ (he m (by omega))
      refine ⟨l ++ [a], by simp [h1], ?_, fun b hb => ?_⟩
      · rw [List.flatMap_append, ← h2, Nat.add_mul, Nat.one_mul, List.take_add]
        congr 1
        simp only [List.flatMap_cons, List.flatMap_nil, List.append_nil]
        apply List.ext_getElem?
        intro j
        by_cases hj : j < ks.length
        · rw [List.getElem?_take_of_lt hj, List.getElem?_drop]; exact hc j hj
        · have h5 : ks.length ≤ j := by omega
          rw [List.getElem?_eq_none (by simp; omega), List.getElem?_eq_none (by rw [hf]; exact h5)]
      · rcases List.mem_append.1 hb with hb | hb
        · exact h3 b hb
        · simp at hb; subst hb; exact ha
  obtain ⟨l, h1, h2, h3⟩ := key n (Nat.le_refl n)
  rw [List.take_of_length_le (by omega)] at h2
  exact ⟨l, h1, h2, h3⟩

/-- A slice of strings. -/
theorem elems_str {n : Nat} {xs : List Value} (he : Elems [.s] n xs) (hl : xs.length = n * 1) : ∃ ss : List ByteArray, ss.length = n ∧ xs = ss.map .string ∧ ∀ s ∈ ss, s.size ≤ reachBytes := by
  obtain ⟨l, h1, h2, h3⟩ := elems_list (fun s => [.string s]) (fun s => s.size ≤ reachBytes) (fun _ => rfl) (fun o ht => by
    obtain ⟨v, hv, s, rfl, hs⟩ := ht 0 .s rfl
    refine ⟨s, hs, fun j hj => ?_⟩
    have : j = 0 := by simp at hj; omega
    subst this; exact hv) he hl
  refine ⟨l, h1, ?_, h3⟩
  rw [h2]
  clear h1 h2 h3
  induction l with
  | nil => rfl
  | cons a l ih => simp [ih]

/-- All arguments read behind the call as they did before. -/
theorem Below.trodAll (hl : laidOutB P = true) {W W' : World} (hb : Below W.heap.size W W') :
    ∀ {ts : List TypeId} {vs : List Value} {ds : List (DataW H)} {ps : List MemPlace}, ts.all (fun t => P.readableRec t && decide (t < P.types.size)) = true →
    DataW.TrodAll enc P W 0 (fun _ => true) true ts vs ds ps → DataW.TrodAll enc P W' 0 (fun b => decide (b < W.heap.size)) true ts vs ds ps
  | [], vs, ds, ps, _, h => by
    cases vs <;> cases ds <;> simp [DataW.TrodAll] at h ⊢
    exact h
  | t :: ts, vs, ds, ps, hr, h => by
    simp only [List.all_cons, Bool.and_eq_true, decide_eq_true_eq] at hr
    have hlt := DataW.TrodAll.lt h
    obtain ⟨v, vs', d, ds', p, q, rfl, rfl, rfl, h1, h2⟩ := trodAll_cons h
    exact ⟨p, q, Go.RowKit.Below.trod hl hr.1.1 hr.1.2 h1 hb (fun x hx => hlt x (by simp [hx])), Below.trodAll hl hb hr.2 h2, rfl⟩
end
end Go.Sep

/- Layer 4's laws: the plain facts on disks, and the small functions. -/
namespace Go.Sep
open Go.Den Go.RowKit Go.Prog Go.Plat
set_option linter.unusedSimpArgs false
set_option linter.unusedVariables false

/-! ### Disks -/

theorem pad_size {s : ByteArray} (h : s.size ≤ 128) : (Disk.pad s).size = 128 := by
  unfold Disk.pad; rw [ByteArray.size_append, zeros_size]; omega

theorem new_ok (n : Int) : (Disk.new n).Ok := by
  have hn : 0 ≤ min2 (max2 n 0) 4096 ∧ min2 (max2 n 0) 4096 ≤ 4096 := by unfold min2 max2; split <;> split <;> omega
  refine ⟨fun s hs => ?_, fun p hp => ?_, ?_, ?_⟩
  · simp only [Disk.new, List.mem_replicate] at hs
    rw [hs.2]; exact zeros_size 128
  · simp [Disk.new] at hp
  · simp only [Disk.new, List.length_replicate]; omega
  · simp [Disk.new]

theorem new_length {n : Int} (h0 : 0 ≤ n) (h1 : n ≤ 40) : (Disk.new n).safe.length = n.toNat := by
  simp only [Disk.new, List.length_replicate]
  have : min2 (max2 n 0) 4096 = n := by unfold min2 max2; split <;> split <;> omega
  rw [this]

theorem crash_eq (D : Disk) (mask torn cut : Int) : D.crash mask torn cut = ⟨crashed mask torn (min2 (max2 cut 0) 128) D.safe D.later D.later.length, [], D.ops, 0⟩ := by
  unfold Disk.crash
  have := crashFrom_eq mask torn (min2 (max2 cut 0) 128) D.later D.safe D.later.length 0 (by omega)
  simp only [List.drop_zero, crashed] at this
  rw [this]

theorem write_len (D : Disk) (i : Int) (s : ByteArray) : (D.write i s).1.safe = D.safe ∧ (D.write i s).1.later.length ≤ D.later.length + 1 := by
  unfold Disk.write
  split
  · exact ⟨rfl, by simp⟩
  · split
    · exact ⟨rfl, by simp [Disk.tick]⟩
    · exact ⟨rfl, by simp⟩

theorem write_ok {D : Disk} (h : D.Ok) (i : Int) (s : ByteArray) (hl : D.later.length + 1 < 1099511627776) : (D.write i s).1.Ok := by
  have h2 := write_len D i s
  refine ⟨by rw [h2.1]; exact h.safe, ?_, by rw [h2.1]; exact h.few, by omega⟩
  rw [h2.1]
  unfold Disk.write
  split
  · exact h.later
  · rename_i hg
    split
    · exact h.later
    · intro p hp
      simp only [List.mem_append, List.mem_singleton] at hp
      rcases hp with hp | hp
      · exact h.later p hp
      · subst hp
        have hg1 : D.is i := by
          by_cases hh : D.is i
          · exact hh
          · exact absurd (.inl hh) hg
        have hg2 : ¬ 128 < s.size := fun hh => hg (.inr hh)
        exact ⟨pad_size (by omega), hg1.1, hg1.2⟩

theorem crashAt_mem {mask torn c : Int} (hc : 0 ≤ c ∧ c ≤ 128) {safe : List ByteArray} {k : Nat} {p : Int × ByteArray} (hs : ∀ s ∈ safe, s.size = 128) (hp : p.2.size = 128 ∧ 0 ≤ p.1 ∧ p.1 < safe.length) :
    ∀ s ∈ Disk.crashAt mask torn c safe k p, s.size = 128 := by
  intro s hm
  have hplt : p.1.toNat < safe.length := by omega
  unfold Disk.crashAt at hm
  split at hm
  · rcases List.mem_or_eq_of_mem_set hm with hm | hm
    · exact hs s hm
    · rw [hm]
      have := hs _ (List.getElem_mem hplt)
      rw [List.getD_eq_getElem?_getD, List.getElem?_eq_getElem hplt, Option.getD_some, ByteArray.size_append, strEx, strEx, this, hp.1]
      omega
  · split at hm
    · rcases List.mem_or_eq_of_mem_set hm with hm | hm
      · exact hs s hm
      · rw [hm]; exact hp.1
    · exact hs s hm

theorem crashed_mem {mask torn c : Int} (hc : 0 ≤ c ∧ c ≤ 128) {safe : List ByteArray} {later : List (Int × ByteArray)} (hs : ∀ s ∈ safe, s.size = 128) (hp : ∀ p ∈ later, p.2.size = 128 ∧ 0 ≤ p.1 ∧ p.1 < safe.length) :
    ∀ j, ∀ s ∈ crashed mask torn c safe later j, s.size = 128
  | 0 => hs
  | j + 1 => by
    simp only [crashed]
    cases hl : later[j]? with
    | none => exact crashed_mem hc hs hp j
    | some p =>
      refine crashAt_mem hc (crashed_mem hc hs hp j) ?_
      rw [crashed_length]; exact hp p (List.mem_of_getElem? hl)

theorem cut_in (cut : Int) : 0 ≤ min2 (max2 cut 0) 128 ∧ min2 (max2 cut 0) 128 ≤ 128 := by unfold min2 max2; split <;> split <;> omega

theorem crash_ok {D : Disk} (h : D.Ok) (mask torn cut : Int) : (D.crash mask torn cut).Ok := by
  rw [crash_eq]
  refine ⟨crashed_mem (cut_in cut) h.safe h.later _, fun p hp => by simp at hp, by simp only [crashed_length]; exact h.few, by simp⟩

theorem foldl_put_mem {later : List (Int × ByteArray)} : ∀ {safe : List ByteArray}, (∀ s ∈ safe, s.size = 128) → (∀ p ∈ later, p.2.size = 128) → ∀ s ∈ later.foldl Disk.put safe, s.size = 128 := by
  induction later with
  | nil => exact fun hs _ => hs
  | cons p l ih =>
    intro safe hs hp
    rw [List.foldl_cons]
    refine ih (fun s hm => ?_) (fun q hq => hp q (List.mem_cons_of_mem _ hq))
    rcases List.mem_or_eq_of_mem_set hm with hm | hm
    · exact hs s hm
    · rw [hm]; exact hp p (List.mem_cons_self)

theorem sync_ok {D : Disk} (h : D.Ok) : D.sync.1.Ok := by
  unfold Disk.sync
  split
  · exact ⟨h.safe, h.later, h.few, h.less⟩
  · refine ⟨foldl_put_mem h.safe fun p hp => (h.later p hp).1, fun p hp => by simp at hp, ?_, by simp⟩
    show (D.later.foldl Disk.put D.safe).length ≤ 4096
    rw [foldl_put_length]; exact h.few

theorem armed_ok {D : Disk} (h : D.Ok) (n : Int) : (D.armed n).Ok := ⟨h.safe, h.later, h.few, h.less⟩

/-- What a read tells, where nothing is written behind. -/
theorem read_safe {D : Disk} (h : D.later = []) {i : Nat} (hi : i < D.safe.length) : D.read (i : Int) = (D.safe[i], 0) := by
  unfold Disk.read
  rw [if_pos ⟨by omega, by omega⟩]
  simp [Disk.now, Disk.last, h, hi]

theorem perm4 {α : Type} (A B C E : α) (L : List α) : (A :: B :: C :: E :: L).Perm (E :: C :: A :: B :: L) := by
  have h1 : (A :: B :: C :: E :: L) = [A, B] ++ ([C, E] ++ L) := rfl
  have h2 : (E :: C :: A :: B :: L) = ([E, C] ++ [A, B]) ++ L := rfl
  rw [h1, h2, ← List.append_assoc]
  exact List.Perm.append_right _ (List.perm_append_comm.trans (List.Perm.append_right _ (List.Perm.swap _ _ _)))
theorem perm4' {α : Type} (A B C E : α) (L : List α) : (E :: C :: A :: B :: L).Perm (A :: B :: C :: E :: L) := (perm4 A B C E L).symm
theorem perm22 {α : Type} (A B C E : α) (L : List α) : (A :: B :: C :: E :: L).Perm (C :: E :: A :: B :: L) := by
  have h1 : (A :: B :: C :: E :: L) = ([A, B] ++ [C, E]) ++ L := rfl
  have h2 : (C :: E :: A :: B :: L) = ([C, E] ++ [A, B]) ++ L := rfl
  rw [h1, h2]
  exact List.Perm.append_right _ List.perm_append_comm

section
variable {W w : World} {L : List HP}

/-- The layer's first test. -/
theorem alive_spec {K : VK} (h : St W w L) (hK : ∀ w', St W w' L → K (.bool true) w') : bondstorelaw04_alive K w := by
  unfold bondstorelaw04_alive
  refine New_spec h fun d w h => ?_
  simp only [nn_some, add_mk, Nat.zero_add, Nat.add_zero, Nat.reduceAdd, Nat.reduceMul, Option.isNone_some, Option.isNone_none, br_true, br_false, Bool.not_true, Bool.not_false, xI_eq, xB_eq, xS_eq, xP_eq, xL_eq, x0_eq, x2_eq, x3_eq, chk_eq, true_and, and_true, List.set_cons_zero, List.set_cons_succ, List.eraseIdx_cons_zero, List.eraseIdx_cons_succ]
  refine Disk_Write_spec (k := 0) h rfl (new_ok 2) fun w h => ?_
  simp only [nn_some, add_mk, Nat.zero_add, Nat.add_zero, Nat.reduceAdd, Nat.reduceMul, Option.isNone_some, Option.isNone_none, br_true, br_false, Bool.not_true, Bool.not_false, xI_eq, xB_eq, xS_eq, xP_eq, xL_eq, x0_eq, x2_eq, x3_eq, chk_eq, true_and, and_true, List.set_cons_zero, List.set_cons_succ, List.eraseIdx_cons_zero, List.eraseIdx_cons_succ] at h ⊢
  have hok : ((Disk.new 2).write 0 ⟨#[97]⟩).1.Ok := write_ok (new_ok 2) _ _ (by decide)
  refine Disk_Read_spec (k := 0) h rfl hok ?_
  simp only [nn_some, add_mk, Nat.zero_add, Nat.add_zero, Nat.reduceAdd, Nat.reduceMul, Option.isNone_some, Option.isNone_none, br_true, br_false, Bool.not_true, Bool.not_false, xI_eq, xB_eq, xS_eq, xP_eq, xL_eq, x0_eq, x2_eq, x3_eq, chk_eq, true_and, and_true, List.set_cons_zero, List.set_cons_succ, List.eraseIdx_cons_zero, List.eraseIdx_cons_succ]
  refine Disk_Crash_spec (k := 0) h rfl hok fun w h => ?_
  simp only [nn_some, add_mk, Nat.zero_add, Nat.add_zero, Nat.reduceAdd, Nat.reduceMul, Option.isNone_some, Option.isNone_none, br_true, br_false, Bool.not_true, Bool.not_false, xI_eq, xB_eq, xS_eq, xP_eq, xL_eq, x0_eq, x2_eq, x3_eq, chk_eq, true_and, and_true, List.set_cons_zero, List.set_cons_succ, List.eraseIdx_cons_zero, List.eraseIdx_cons_succ] at h ⊢
  have hok2 := crash_ok hok 0 (-1) 0
  refine Disk_Read_spec (k := 0) h rfl hok2 ?_
  simp only [nn_some, add_mk, Nat.zero_add, Nat.add_zero, Nat.reduceAdd, Nat.reduceMul, Option.isNone_some, Option.isNone_none, br_true, br_false, Bool.not_true, Bool.not_false, xI_eq, xB_eq, xS_eq, xP_eq, xL_eq, x0_eq, x2_eq, x3_eq, chk_eq, true_and, and_true, List.set_cons_zero, List.set_cons_succ, List.eraseIdx_cons_zero, List.eraseIdx_cons_succ]
  have r1 : ((Disk.new 2).write 0 ⟨#[97]⟩).2 = 0 := by decide +kernel
  have r2 : (((Disk.new 2).write 0 ⟨#[97]⟩).1.read 0).2 = 0 := by decide +kernel
  have r3 : ((((Disk.new 2).write 0 ⟨#[97]⟩).1.crash 0 (-1) 0).read 0).2 = 0 := by decide +kernel
  have r4 : (((Disk.new 2).write 0 ⟨#[97]⟩).1.read 0).1 = Disk.pad ⟨#[97]⟩ := by decide +kernel
  have r5 : ((((Disk.new 2).write 0 ⟨#[97]⟩).1.crash 0 (-1) 0).read 0).1 = zeros 128 := by decide +kernel
  have r6 : ((((Disk.new 2).write 0 ⟨#[97]⟩).1.crash 0 (-1) 0).safe.length : Int) = 2 := by decide +kernel
  rw [r1, r2, r3, r4, r5]
  simp only [beq_self_eq_true, br_true]
  have s1 : (((Disk.pad ⟨#[97]⟩).size : Int) == 128) = true := by decide +kernel
  have s2 : (((zeros 128).size : Int) == 128) = true := by decide +kernel
  have c1 : (Disk.pad ⟨#[97]⟩).data.toList[(0 : Int).toNat]? = some 97 := by decide +kernel
  have c2 : (zeros 128).data.toList[(0 : Int).toNat]? = some 0 := by decide +kernel
  rw [s1, br_true]
  refine ⟨97, ⟨by decide, c1⟩, ?_⟩
  have t1 : (((97 : UInt8).toNat : Int) == 97) = true := by decide
  have t2 : (((0 : UInt8).toNat : Int) == 0) = true := by decide
  dsimp only
  rw [t1, br_true, s2, br_true]
  refine ⟨0, ⟨by decide, c2⟩, ?_⟩
  dsimp only
  rw [t2, br_true]
  refine Disk_Sectors_spec (k := 0) h rfl ?_
  simp only [nn_some, add_mk, Nat.zero_add, Nat.add_zero, Nat.reduceAdd, Nat.reduceMul, Option.isNone_some, Option.isNone_none, br_true, br_false, Bool.not_true, Bool.not_false, xI_eq, xB_eq, xS_eq, xP_eq, xL_eq, x0_eq, x2_eq, x3_eq, chk_eq, true_and, and_true, List.set_cons_zero, List.set_cons_succ, List.eraseIdx_cons_zero, List.eraseIdx_cons_succ]
  rw [r6]
  exact hK w h.drop

/-! ### The document's disk -/

def rdiskCells (sb ab tb : Option Addr) (n sc m ac tc : Nat) (ops arm : Int) : List Value := [.slice sb n sc, .slice ab m ac, .slice tb m tc, .int .i64 ops, .int .i64 arm]

/-- The document's disk in block 'd'. -/
def rdisk (d : Nat) (D : Disk) : HP := exH fun (v : (Option Addr × Nat) × (Option Addr × Nat) × (Option Addr × Nat)) =>
  sep (pt d (rdiskCells v.1.1 v.2.1.1 v.2.2.1 D.safe.length v.1.2 D.later.length v.2.1.2 v.2.2.2 D.ops D.arm))
    (sep (own v.1.1 D.safe.length v.1.2 1 (D.safe.map .string)) (sep (own v.2.1.1 D.later.length v.2.1.2 1 (D.later.map fun p => .int .i64 p.1)) (own v.2.2.1 D.later.length v.2.2.2 1 (D.later.map fun p => .string p.2))))

theorem rdisk_open {k d : Nat} {D : Disk} (h : St W w L) (hk : L[k]? = some (rdisk d D)) : ∃ sb sc ab ac tb tc,
    St W w (pt d (rdiskCells sb ab tb D.safe.length sc D.later.length ac tc D.ops D.arm) :: own sb D.safe.length sc 1 (D.safe.map .string) :: own ab D.later.length ac 1 (D.later.map fun p => .int .i64 p.1) :: own tb D.later.length tc 1 (D.later.map fun p => .string p.2) :: L.eraseIdx k) := by
  obtain ⟨⟨⟨sb, sc⟩, ⟨ab, ac⟩, tb, tc⟩, h1⟩ := (h.focus hk).ex
  have h2 := h1.split
  have h3 := (h2.perm (List.Perm.swap _ _ _)).split
  have h4 := (h3.perm (List.Perm.swap _ _ _)).split
  refine ⟨sb, sc, ab, ac, tb, tc, h4.perm ?_⟩
  -- at, data, safe, pt  ->  pt, safe, at, data
  generalize own ab _ _ _ _ = A
  generalize own tb _ _ _ _ = B
  generalize own sb _ _ _ _ = C
  generalize pt d _ = E
  exact perm4 A B C E _

theorem rdisk_close {k d : Nat} {sb ab tb : Option Addr} {sc ac tc n m : Nat} {safe : List ByteArray} {later : List (Int × ByteArray)} {ops arm : Int} {A : HP} (hk : L[k]? = some A) (hn : n = safe.length) (hm : m = later.length)
    (h : St W w (pt d (rdiskCells sb ab tb n sc m ac tc ops arm) :: own sb n sc 1 (safe.map .string) :: own ab m ac 1 (later.map fun p => .int .i64 p.1) :: own tb m tc 1 (later.map fun p => .string p.2) :: L.eraseIdx k)) : St W w (L.set k (rdisk d ⟨safe, later, ops, arm⟩)) := by
  subst hn hm
  refine St.unfocus (A := A) ?_ hk
  refine St.ex_intro ((sb, sc), (ab, ac), (tb, tc)) (St.join ?_)
  refine St.perm ?_ (List.Perm.swap _ _ _)
  refine St.join ?_
  refine St.perm ?_ (List.Perm.swap _ _ _)
  refine St.join ?_
  refine h.perm ?_
  dsimp only
  generalize own ab _ _ _ _ = A
  generalize own tb _ _ _ _ = B
  generalize own sb _ _ _ _ = C
  generalize pt d _ = E
  exact perm4' A B C E _

/-- An empty sector, by the document. -/
theorem rblank_spec {K : VK} (hK : K (.string (zeros 128)) w) : bondstoreref04_blank K w := by
  unfold bondstoreref04_blank
  refine ⟨fun us w' => ∃ j : Nat, us = [.string .empty, .string (zeros j), .int .i64 j] ∧ j ≤ 128 ∧ w' = w, fun us _ => match us with | [_, _, .int _ j] => 128 - j.toNat | _ => 0, ⟨0, rfl, by omega, rfl⟩, ?_⟩
  rintro s1 s2 n1 w2 ⟨j, he, hj, rfl⟩
  cases he
  generalize hb : decide ((j : Int) < 128) = b
  cases b <;> simp only [br_true, br_false, decide_eq_true_eq, decide_eq_false_iff_not] at hb ⊢
  · have : j = 128 := by omega
    subst this; exact hK
  · refine ⟨by rw [zeros_size]; have : (⟨#[0]⟩ : ByteArray).size = 1 := rfl; omega, ?_⟩
    have e5 : IntKind.i64.wrap ((j : Int) + 1) = ((j + 1 : Nat) : Int) := by rw [wrap_id (by omega)]; omega
    have e6 : zeros j ++ (⟨#[0]⟩ : ByteArray) = zeros (j + 1) := by
      apply ByteArray.ext
      rw [ByteArray.data_append]
      apply Array.ext'
      rw [Array.toList_append]
      exact (List.replicate_succ' (n := j) (a := (0 : UInt8))).symm
    rw [e5, e6]
    exact ⟨⟨j + 1, rfl, by omega, rfl⟩, by omega⟩

theorem rNew_spec {n : Int} {K : VK} (h : St W w L) (hn1 : n ≤ 4096) (hK : ∀ r w', St W w' (rdisk r (Disk.new n) :: L) → K (.pointer (some ⟨r, 0, none⟩)) w') : bondstoreref04_New n K w := by
  unfold bondstoreref04_New
  refine ⟨trivial, mk_of h fun d w hs => ?_⟩
  refine rblank_spec ?_
  simp only [nn_some, add_mk, Nat.zero_add, Nat.add_zero, Nat.reduceAdd, Nat.reduceMul, Option.isNone_some, Option.isNone_none, br_true, br_false, Bool.not_true, Bool.not_false, xI_eq, xB_eq, xS_eq, xP_eq, xL_eq, x0_eq, x2_eq, x3_eq, chk_eq, true_and, and_true, List.set_cons_zero, List.set_cons_succ, List.eraseIdx_cons_zero, List.eraseIdx_cons_succ]
  have hn : min2 (max2 n 0) 4096 = max2 n 0 ∧ 0 ≤ max2 n 0 := by unfold min2 max2; constructor <;> split <;> omega
  refine ⟨fun us w' => ∃ (j : Nat) (b : Option Addr) (c : Nat), us = [.pointer none, .pointer (some ⟨d, 0, none⟩), .string (zeros 128), .int .i64 j] ∧ (j : Int) ≤ max2 n 0 ∧
      St W w' (pt d [.slice b j c, .slice none 0 0, .slice none 0 0, .int .i64 0, .int .i64 0] :: own b j c 1 ((List.replicate j (zeros 128)).map .string) :: L),
    fun us _ => match us with | [_, _, _, .int _ j] => (n - j).toNat | _ => 0, ⟨0, none, 0, rfl, hn.2, ?_⟩, ?_⟩
  · exact (hs.push (own_nil 1)).perm (List.Perm.swap _ _ _)
  · rintro p1 a1 s2 n2 w2 ⟨j, b, c, he, hj, hs⟩
    cases he
    have hm : max2 n 0 = n ∨ n < 0 ∧ max2 n 0 = 0 := by unfold max2; split <;> omega
    have fin : ¬ ((j : Int) < n) → K (.pointer (some ⟨d, 0, none⟩)) w2 := fun h0 => by
      have hj2 : (j : Int) = max2 n 0 := by omega
      have hj3 : j = (min2 (max2 n 0) 4096).toNat := by rw [hn.1]; omega
      have hs2 : St W w2 (pt d [.slice b j c, .slice none 0 0, .slice none 0 0, .int .i64 0, .int .i64 0] :: own b j c 1 ((List.replicate j (zeros 128)).map .string) :: own none 0 0 1 (([] : List (Int × ByteArray)).map fun p => .int .i64 p.1) :: own none 0 0 1 (([] : List (Int × ByteArray)).map fun p => .string p.2) :: L) :=
        ((hs.push (A := own none 0 0 1 []) (own_nil 1)).push (A := own none 0 0 1 []) (own_nil 1)).perm (perm22 _ _ _ _ _)
      have := rdisk_close (L := disk d (Disk.new n) :: L) (k := 0) (A := disk d (Disk.new n)) (safe := List.replicate j (zeros 128)) (later := []) (ops := 0) (arm := 0) rfl (by simp) rfl hs2
      refine hK d w2 ?_
      have e7 : Disk.new n = ⟨List.replicate j (zeros 128), [], 0, 0⟩ := by unfold Disk.new; rw [← hj3]
      rw [e7]; exact this
    refine br_dec (fun h0 => ?_) fin
    have h1 : decide ((j : Int) < 4096) = true := decide_eq_true (by omega)
    rw [h1, br_true]
    refine ld_pt (k := 0) hs rfl rfl ?_
    simp only [nn_some, add_mk, Nat.zero_add, Nat.add_zero, Nat.reduceAdd, Nat.reduceMul, Option.isNone_some, Option.isNone_none, br_true, br_false, Bool.not_true, Bool.not_false, xI_eq, xB_eq, xS_eq, xP_eq, xL_eq, x0_eq, x2_eq, x3_eq, chk_eq, true_and, and_true, List.set_cons_zero, List.set_cons_succ, List.eraseIdx_cons_zero, List.eraseIdx_cons_succ]
    refine mk_of hs fun r w hs => ?_
    refine appSl_own (k := 2) (ys := [.string (zeros 128)]) hs rfl (Src_pt (k' := 0) hs rfl rfl fun j v hj => by rw [Nat.zero_add]; exact hj) (by simp) rfl (by omega) (by omega) (by simp [Value.oneCell']) fun b' c' w hs => ?_
    simp only [nn_some, add_mk, Nat.zero_add, Nat.add_zero, Nat.reduceAdd, Nat.reduceMul, Option.isNone_some, Option.isNone_none, br_true, br_false, Bool.not_true, Bool.not_false, xI_eq, xB_eq, xS_eq, xP_eq, xL_eq, x0_eq, x2_eq, x3_eq, chk_eq, true_and, and_true, List.set_cons_zero, List.set_cons_succ, List.eraseIdx_cons_zero, List.eraseIdx_cons_succ] at hs ⊢
    refine st_pt (k := 1) hs rfl (Nat.le_of_ble_eq_true rfl) rfl fun w hs => ?_
    simp only [nn_some, add_mk, Nat.zero_add, Nat.add_zero, Nat.reduceAdd, Nat.reduceMul, Option.isNone_some, Option.isNone_none, br_true, br_false, Bool.not_true, Bool.not_false, xI_eq, xB_eq, xS_eq, xP_eq, xL_eq, x0_eq, x2_eq, x3_eq, chk_eq, true_and, and_true, List.set_cons_zero, List.set_cons_succ, List.eraseIdx_cons_zero, List.eraseIdx_cons_succ] at hs
    have e5 : IntKind.i64.wrap ((j : Int) + 1) = ((j + 1 : Nat) : Int) := by rw [wrap_id (by omega)]; omega
    rw [e5]
    refine ⟨⟨j + 1, b', c', rfl, by omega, ?_⟩, by omega⟩
    have e6 : (List.replicate j (zeros 128)).map Value.string ++ [.string (zeros 128)] = (List.replicate (j + 1) (zeros 128)).map .string := by
      rw [List.replicate_succ']; simp
    rw [e6] at hs
    exact hs.drop

theorem platterBlank_spec {K : VK} (h : St W w L) (hK : ∀ w', St W w' L → K (.string (zeros 128)) w') : bondstorelaw04_platterBlank K w := by
  unfold bondstorelaw04_platterBlank
  refine rNew_spec h (by omega) fun r w h => ?_
  simp only [nn_some, add_mk, Nat.zero_add, Nat.add_zero, Nat.reduceAdd, Nat.reduceMul, Option.isNone_some, Option.isNone_none, br_true, br_false, Bool.not_true, Bool.not_false, xI_eq, xB_eq, xS_eq, xP_eq, xL_eq, x0_eq, x2_eq, x3_eq, chk_eq, true_and, and_true, List.set_cons_zero, List.set_cons_succ, List.eraseIdx_cons_zero, List.eraseIdx_cons_succ]
  obtain ⟨sb, sc, ab, ac, tb, tc, hs⟩ := rdisk_open (k := 0) h rfl
  refine ld_pt (k := 0) hs rfl rfl ?_
  simp only [nn_some, add_mk, Nat.zero_add, Nat.add_zero, Nat.reduceAdd, Nat.reduceMul, Option.isNone_some, Option.isNone_none, br_true, br_false, Bool.not_true, Bool.not_false, xI_eq, xB_eq, xS_eq, xP_eq, xL_eq, x0_eq, x2_eq, x3_eq, chk_eq, true_and, and_true, List.set_cons_zero, List.set_cons_succ, List.eraseIdx_cons_zero, List.eraseIdx_cons_succ]
  refine ixs_own (k := 1) hs rfl (by decide) fun r hr => ?_
  subst hr
  refine ld_own (k := 1) hs rfl (v := .string (zeros 128)) rfl ?_
  simp only [nn_some, add_mk, Nat.zero_add, Nat.add_zero, Nat.reduceAdd, Nat.reduceMul, Option.isNone_some, Option.isNone_none, br_true, br_false, Bool.not_true, Bool.not_false, xI_eq, xB_eq, xS_eq, xP_eq, xL_eq, x0_eq, x2_eq, x3_eq, chk_eq, true_and, and_true, List.set_cons_zero, List.set_cons_succ, List.eraseIdx_cons_zero, List.eraseIdx_cons_succ]
  exact hK w h.drop
end
end Go.Sep

/- The law PlatterTorn. -/
namespace Go.Sep
open Go.Den Go.RowKit Go.Prog Go.Plat
set_option linter.unusedSimpArgs false
set_option linter.unusedVariables false

/-- The writes of texts into the sectors from 'o' on. -/
def tw : Nat → List ByteArray → List (Int × ByteArray)
  | _, [] => []
  | o, s :: r => ((o : Int), Disk.pad s) :: tw (o + 1) r

theorem tw_length : ∀ (o : Nat) (l : List ByteArray), (tw o l).length = l.length
  | _, [] => rfl
  | o, s :: r => by simp [tw, tw_length]

theorem tw_append (s : ByteArray) : ∀ (o : Nat) (l : List ByteArray), tw o (l ++ [s]) = tw o l ++ [(((o + l.length : Nat) : Int), Disk.pad s)]
  | _, [] => rfl
  | o, t :: r => by
    simp only [List.cons_append, tw, tw_append s (o + 1) r, List.length_cons]
    rw [show o + 1 + r.length = o + (r.length + 1) from by omega]

theorem tw_get : ∀ (o : Nat) (l : List ByteArray) (k : Nat), (tw o l)[k]? = l[k]?.map fun s => (((o + k : Nat) : Int), Disk.pad s)
  | _, [], k => by simp [tw]
  | o, t :: r, 0 => by simp [tw]
  | o, t :: r, k + 1 => by
    simp only [tw, List.getElem?_cons_succ, tw_get (o + 1) r k]
    rw [show o + 1 + k = o + (k + 1) from by omega]

/-- The disk behind the writes of the texts. -/
def twd (n : Nat) (l : List ByteArray) : Disk := ⟨List.replicate n (zeros 128), tw 0 l, l.length, 0⟩

theorem twd_ok {n : Nat} {l : List ByteArray} (hn : n ≤ 40) (hl : l.length ≤ n) (hs : ∀ s ∈ l, s.size ≤ 128) : (twd n l).Ok := by
  refine ⟨fun s hm => ?_, fun p hp => ?_, by simp only [twd, List.length_replicate]; omega, by simp only [twd, tw_length]; omega⟩
  · simp only [twd, List.mem_replicate] at hm
    rw [hm.2]; exact zeros_size 128
  · simp only [twd, List.length_replicate] at hp ⊢
    obtain ⟨k, hk⟩ := List.mem_iff_getElem?.1 hp
    rw [tw_get] at hk
    cases hx : l[k]? with
    | none => simp [hx] at hk
    | some x =>
      simp only [hx, Option.map_some, Option.some.injEq] at hk
      have hlt := (List.getElem?_eq_some_iff.1 hx).1
      subst hk
      exact ⟨pad_size (hs x (List.mem_of_getElem? hx)), by simp only; omega, by simp only; omega⟩

theorem twd_new {n : Int} (h0 : 0 ≤ n) (h1 : n ≤ 40) : Disk.new n = twd n.toNat [] := by
  unfold Disk.new twd
  have : min2 (max2 n 0) 4096 = n := by unfold min2 max2; split <;> split <;> omega
  rw [this]; rfl

theorem twd_write {n : Nat} {l : List ByteArray} {s : ByteArray} (hn : n ≤ 40) (hl : l.length < n) (hs : s.size ≤ 128) : (twd n l).write l.length s = (twd n (l ++ [s]), 0) := by
  unfold Disk.write
  rw [if_neg, if_neg]
  · simp only [twd, Disk.tick, tw_append, List.length_append, List.length_singleton]
    rw [wrap_id (by omega)]
    simp
  · simp [twd, Disk.fails]
  · simp only [not_or, Decidable.not_not]
    exact ⟨⟨by omega, by simp only [twd, List.length_replicate]; omega⟩, by omega⟩

theorem twd_read {n : Nat} {l : List ByteArray} {s : ByteArray} (hl : l.length < n) : (twd n (l ++ [s])).read l.length = (Disk.pad s, 0) := by
  unfold Disk.read
  rw [if_pos ⟨by omega, by simp only [twd, List.length_replicate]; omega⟩]
  simp [Disk.now, Disk.last, twd, tw_append]

theorem crashed_get (mask torn c : Int) (safe : List ByteArray) (l : List ByteArray) (hl : l.length ≤ safe.length) : ∀ (j i : Nat), j ≤ l.length → 
    (crashed mask torn c safe (tw 0 l) j)[i]? = if i < j then (if (i : Int) = torn then some ((Disk.pad (l.getD i .empty)).extract 0 c.toNat ++ (safe.getD i .empty).extract c.toNat (safe.getD i .empty).size) else if Disk.bit mask i then some (Disk.pad (l.getD i .empty)) else safe[i]?) else safe[i]?
  | 0, i, _ => by simp [crashed]
  | j + 1, i, hj => by
    have ih := crashed_get mask torn c safe l hl j
    have hlt : j < l.length := by omega
    simp only [crashed, tw_get, List.getElem?_eq_getElem hlt, Option.map_some, Nat.zero_add]
    have hd : l.getD j .empty = l[j] := by simp [hlt]
    have hsd : (crashed mask torn c safe (tw 0 l) j).getD j .empty = safe.getD j .empty := by
      rw [List.getD_eq_getElem?_getD, ih j (by omega), if_neg (by omega), ← List.getD_eq_getElem?_getD]
    unfold Disk.crashAt
    simp only [Int.toNat_natCast]
    by_cases hij : i = j
    · subst hij
      rw [if_pos (show i < i + 1 by omega), hsd, hd]
      have hlen : i < (crashed mask torn c safe (tw 0 l) i).length := by rw [crashed_length]; omega
      split
      · rw [List.getElem?_set_self hlen]
      · split
        · rw [List.getElem?_set_self hlen]
        · rw [ih i (by omega), if_neg (by omega)]
    · have e2 : ∀ (X Y : Option ByteArray), (if i < j + 1 then X else Y) = (if i < j then X else Y) := fun X Y => by
        by_cases h : i < j
        · rw [if_pos h, if_pos (by omega)]
        · rw [if_neg h, if_neg (by omega)]
      rw [e2, ← ih i (by omega)]
      split
      · rw [List.getElem?_set_ne (by omega)]
      · split
        · rw [List.getElem?_set_ne (by omega)]
        · rfl

theorem twd_crash {n : Nat} {l : List ByteArray} {mask torn cut : Int} {i : Nat} (hl : l.length ≤ n) (hi : i < l.length) :
    ((twd n l).crash mask torn cut).read i = (if (i : Int) = torn then (Disk.pad (l.getD i .empty)).extract 0 (min2 (max2 cut 0) 128).toNat ++ (zeros 128).extract (min2 (max2 cut 0) 128).toNat (zeros 128).size else if Disk.bit mask i then Disk.pad (l.getD i .empty) else zeros 128, 0) := by
  have hlen : i < ((twd n l).crash mask torn cut).safe.length := by
    rw [crash_eq]; simp only [crashed_length, twd, List.length_replicate]; omega
  have h1 := read_safe (D := (twd n l).crash mask torn cut) (by rw [crash_eq]) hlen
  rw [h1]
  have h2 : ((twd n l).crash mask torn cut).safe[i]? = some (((twd n l).crash mask torn cut).safe[i]) := List.getElem?_eq_getElem hlen
  have h3 := crashed_get mask torn (min2 (max2 cut 0) 128) (twd n l).safe l (by simp only [twd, List.length_replicate]; exact hl) l.length i (Nat.le_refl _)
  have h4 : ((twd n l).crash mask torn cut).safe[i]? = (crashed mask torn (min2 (max2 cut 0) 128) (twd n l).safe (tw 0 l) l.length)[i]? := by
    rw [crash_eq]; simp only [twd, tw_length]
  rw [h4, h3, if_pos hi] at h2
  have h5 : (twd n l).safe.getD i .empty = zeros 128 := by
    simp only [twd, List.getD_eq_getElem?_getD, List.getElem?_replicate]
    rw [if_pos (by omega)]; rfl
  have h6 : (twd n l).safe[i]? = some (zeros 128) := by
    simp only [twd, List.getElem?_replicate]
    rw [if_pos (by omega)]
  rw [h5, h6] at h2
  have h7 : ((twd n l).crash mask torn cut).safe[i] = (if (i : Int) = torn then (Disk.pad (l.getD i .empty)).extract 0 (min2 (max2 cut 0) 128).toNat ++ (zeros 128).extract (min2 (max2 cut 0) 128).toNat (zeros 128).size else if Disk.bit mask i then Disk.pad (l.getD i .empty) else zeros 128) := by
    by_cases ha : (i : Int) = torn
    · rw [if_pos ha] at h2 ⊢; exact (Option.some.inj h2).symm
    · rw [if_neg ha] at h2 ⊢
      by_cases hb : Disk.bit mask i = true
      · rw [if_pos hb] at h2 ⊢; exact (Option.some.inj h2).symm
      · rw [if_neg hb] at h2 ⊢; exact (Option.some.inj h2).symm
  rw [h7]

section
variable {W w : World} {L : List HP}

theorem Torn_spec {n mask torn cut : Int} {sb : Option Addr} {sn sc : Nat} {ss : List ByteArray} {K : VK} (h : St W w L) (hr : Ro W sb sn 1 (ss.map .string)) (hK : ∀ w', St W w' L → K (.bool true) w') :
    bondstorelaw04_PlatterTorn n sb sn sc mask torn cut K w := by
  have hsl : ss.length = sn := by have := hr.1; simp at this; exact this
  have hcut := cut_in cut
  unfold bondstorelaw04_PlatterTorn
  refine alive_spec h fun w h => ?_
  simp only [nn_some, add_mk, Nat.zero_add, Nat.add_zero, Nat.reduceAdd, Nat.reduceMul, Option.isNone_some, Option.isNone_none, br_true, br_false, Bool.not_true, Bool.not_false, xI_eq, xB_eq, xS_eq, xP_eq, xL_eq, x0_eq, x2_eq, x3_eq, chk_eq, true_and, and_true, List.set_cons_zero, List.set_cons_succ, List.eraseIdx_cons_zero, List.eraseIdx_cons_succ]
  have go : ∀ b, (b = false → 0 ≤ n ∧ n ≤ 40 ∧ sn ≤ n) → bondstorelaw04_PlatterTorn.j1 K n sb sn sc mask torn cut b w := fun b hb => by
    unfold bondstorelaw04_PlatterTorn.j1
    refine br_of (fun _ => hK w h) (fun hb2 => ?_)
    obtain ⟨h0, h40, hsn⟩ := hb hb2
    refine New_spec h fun d w h => ?_
    rw [twd_new h0 h40] at h
    simp only [nn_some, add_mk, Nat.zero_add, Nat.add_zero, Nat.reduceAdd, Nat.reduceMul, Option.isNone_some, Option.isNone_none, br_true, br_false, Bool.not_true, Bool.not_false, xI_eq, xB_eq, xS_eq, xP_eq, xL_eq, x0_eq, x2_eq, x3_eq, chk_eq, true_and, and_true, List.set_cons_zero, List.set_cons_succ, List.eraseIdx_cons_zero, List.eraseIdx_cons_succ]
    refine ⟨fun us w' => ∃ (j : Nat) (b : Option Addr) (c : Nat), us = [.bool false, .pointer (some ⟨d, 0, none⟩), .slice b j c, .slice sb sn sc, .int .i64 sn, .int .i64 j] ∧ j ≤ sn ∧ (∀ s ∈ ss.take j, s.size ≤ 128) ∧
        St W w' (disk d (twd n.toNat (ss.take j)) :: own b j c 1 ((ss.take j).map fun s => .string (Disk.pad s)) :: L),
      fun us _ => match us with | [_, _, _, _, _, .int _ j] => sn - j.toNat | _ => 0, ⟨0, none, 0, rfl, Nat.zero_le _, by simp, ?_⟩, ?_⟩
    · rw [List.take_zero]
      exact (h.push (own_nil 1)).perm (List.Perm.swap _ _ _)
    rintro b3 p2 b j c sb3 sn3 sc3 n5 n6 w2 ⟨_, _, _, he, hj, h128, hs⟩
    cases he
    refine br_dec (fun h0 => ?_) (fun h0 => ?_)
    · have hlt : j < ss.length := by omega
      refine ixs_ro hr ⟨by omega, h0⟩ fun a ha => ?_
      refine ld_ro hs hr ha (v := .string ss[j]) (by rw [List.getElem?_map]; simp [hlt]) ?_
      simp only [nn_some, add_mk, Nat.zero_add, Nat.add_zero, Nat.reduceAdd, Nat.reduceMul, Option.isNone_some, Option.isNone_none, br_true, br_false, Bool.not_true, Bool.not_false, xI_eq, xB_eq, xS_eq, xP_eq, xL_eq, x0_eq, x2_eq, x3_eq, chk_eq, true_and, and_true, List.set_cons_zero, List.set_cons_succ, List.eraseIdx_cons_zero, List.eraseIdx_cons_succ]
      refine br_dec (fun h1 => hK w2 hs.drop.drop) (fun h1 => ?_)
      have hsz : ss[j].size ≤ 128 := by omega
      have htl : (ss.take j).length = j := by rw [List.length_take]; omega
      have ht : ss.take (j + 1) = ss.take j ++ [ss[j]] := List.take_succ_eq_append_getElem hlt
      have h128' : ∀ s ∈ ss.take (j + 1), s.size ≤ 128 := fun s hm => by
        rw [ht, List.mem_append, List.mem_singleton] at hm
        rcases hm with hm | hm
        · exact h128 s hm
        · rw [hm]; exact hsz
      have hjn : (ss.take j).length < n.toNat := by omega
      have hw := twd_write (n := n.toNat) (by omega) hjn hsz
      have hrd := twd_read (n := n.toNat) (s := ss[j]) hjn
      rw [htl, ← ht] at hw hrd
      refine Disk_Write_spec (k := 0) hs rfl (twd_ok (by omega) (by omega) h128) fun w hs => ?_
      rw [hw] at hs ⊢
      simp only [nn_some, add_mk, Nat.zero_add, Nat.add_zero, Nat.reduceAdd, Nat.reduceMul, Option.isNone_some, Option.isNone_none, br_true, br_false, Bool.not_true, Bool.not_false, xI_eq, xB_eq, xS_eq, xP_eq, xL_eq, x0_eq, x2_eq, x3_eq, chk_eq, true_and, and_true, List.set_cons_zero, List.set_cons_succ, List.eraseIdx_cons_zero, List.eraseIdx_cons_succ] at hs ⊢
      refine Disk_Read_spec (k := 0) hs rfl (twd_ok (by omega) (by rw [List.length_take]; omega) h128') ?_
      rw [hrd]
      simp only [nn_some, add_mk, Nat.zero_add, Nat.add_zero, Nat.reduceAdd, Nat.reduceMul, Option.isNone_some, Option.isNone_none, br_true, br_false, Bool.not_true, Bool.not_false, xI_eq, xB_eq, xS_eq, xP_eq, xL_eq, x0_eq, x2_eq, x3_eq, chk_eq, true_and, and_true, List.set_cons_zero, List.set_cons_succ, List.eraseIdx_cons_zero, List.eraseIdx_cons_succ]
      refine mk_of hs fun r w hs => ?_
      refine appSl_own (k := 2) (ys := [.string (Disk.pad ss[j])]) hs rfl (Src_pt (k' := 0) hs rfl rfl fun j v hj => by rw [Nat.zero_add]; exact hj) (by simp) rfl (by omega) (by omega) (by simp [Value.oneCell']) fun b' c' w hs => ?_
      simp only [nn_some, add_mk, Nat.zero_add, Nat.add_zero, Nat.reduceAdd, Nat.reduceMul, Option.isNone_some, Option.isNone_none, br_true, br_false, Bool.not_true, Bool.not_false, xI_eq, xB_eq, xS_eq, xP_eq, xL_eq, x0_eq, x2_eq, x3_eq, chk_eq, true_and, and_true, List.set_cons_zero, List.set_cons_succ, List.eraseIdx_cons_zero, List.eraseIdx_cons_succ] at hs
      have e5 : IntKind.i64.wrap ((j : Int) + 1) = ((j + 1 : Nat) : Int) := by rw [wrap_id (by omega)]; omega
      rw [e5]
      refine ⟨⟨j + 1, b', c', rfl, by omega, h128', ?_⟩, by omega⟩
      have e6 : ((ss.take j).map fun s => Value.string (Disk.pad s)) ++ [.string (Disk.pad ss[j])] = (ss.take (j + 1)).map fun s => .string (Disk.pad s) := by
        rw [ht, List.map_append]; rfl
      rw [e6] at hs
      exact hs.drop
    · have hj2 : j = sn := by omega
      subst hj2
      rw [List.take_of_length_le (by omega)] at hs h128
      have hok := twd_ok (n := n.toNat) (l := ss) (by omega) (by omega) h128
      refine Disk_Crash_spec (k := 0) hs rfl hok fun w hs => ?_
      simp only [nn_some, add_mk, Nat.zero_add, Nat.add_zero, Nat.reduceAdd, Nat.reduceMul, Option.isNone_some, Option.isNone_none, br_true, br_false, Bool.not_true, Bool.not_false, xI_eq, xB_eq, xS_eq, xP_eq, xL_eq, x0_eq, x2_eq, x3_eq, chk_eq, true_and, and_true, List.set_cons_zero, List.set_cons_succ, List.eraseIdx_cons_zero, List.eraseIdx_cons_succ] at hs ⊢
      have hok2 := crash_ok hok mask torn cut
      have hread := fun (i : Nat) (hi : i < ss.length) => twd_crash (n := n.toNat) (l := ss) (mask := mask) (torn := torn) (cut := cut) (i := i) (by omega) hi
      generalize min2 (max2 cut 0) 128 = x at *
      refine ⟨fun us w' => ∃ i : Nat, us = [.bool false, .pointer (some ⟨d, 0, none⟩), .slice b j c, .int .i64 x, .int .i64 j, .int .i64 i] ∧ i ≤ j ∧
          St W w' (disk d ((twd n.toNat ss).crash mask torn cut) :: own b j c 1 (ss.map fun s => .string (Disk.pad s)) :: L),
        fun us _ => match us with | [_, _, _, _, _, .int _ i] => j - i.toNat | _ => 0, ⟨0, rfl, Nat.zero_le _, hs⟩, ?_⟩
      rintro b4 p3 sb5 sn5 sc5 n9 n10 n11 w5 ⟨i, he, hi, hs⟩
      cases he
      refine br_dec (fun h0 => ?_) (fun h0 => hK _ hs.drop.drop)
      have hlt : i < ss.length := by omega
      refine Disk_Read_spec (k := 0) hs rfl hok2 ?_
      rw [hread i hlt]
      simp only [nn_some, add_mk, Nat.zero_add, Nat.add_zero, Nat.reduceAdd, Nat.reduceMul, Option.isNone_some, Option.isNone_none, br_true, br_false, Bool.not_true, Bool.not_false, xI_eq, xB_eq, xS_eq, xP_eq, xL_eq, x0_eq, x2_eq, x3_eq, chk_eq, true_and, and_true, List.set_cons_zero, List.set_cons_succ, List.eraseIdx_cons_zero, List.eraseIdx_cons_succ]
      have hpg : (ss.map fun s => Value.string (Disk.pad s))[i * 1]? = some (.string (Disk.pad ss[i])) := by rw [Nat.mul_one, List.getElem?_map]; simp [hlt]
      have hps : (Disk.pad ss[i]).size = 128 := pad_size (h128 _ (List.getElem_mem hlt))
      have hgd : ss.getD i .empty = ss[i] := by simp [hlt]
      rw [hgd]
      refine ixs_own (k := 1) hs rfl ⟨by omega, h0⟩ fun r hr => ?_
      subst hr
      refine ld_own (k := 1) hs rfl (v := .string (Disk.pad ss[i])) (by rw [Int.toNat_natCast]; exact hpg) ?_
      simp only [nn_some, add_mk, Nat.zero_add, Nat.add_zero, Nat.reduceAdd, Nat.reduceMul, Option.isNone_some, Option.isNone_none, br_true, br_false, Bool.not_true, Bool.not_false, xI_eq, xB_eq, xS_eq, xP_eq, xL_eq, x0_eq, x2_eq, x3_eq, chk_eq, true_and, and_true, List.set_cons_zero, List.set_cons_succ, List.eraseIdx_cons_zero, List.eraseIdx_cons_succ]
      refine platterBlank_spec hs fun w hs => ?_
      simp only [nn_some, add_mk, Nat.zero_add, Nat.add_zero, Nat.reduceAdd, Nat.reduceMul, Option.isNone_some, Option.isNone_none, br_true, br_false, Bool.not_true, Bool.not_false, xI_eq, xB_eq, xS_eq, xP_eq, xL_eq, x0_eq, x2_eq, x3_eq, chk_eq, true_and, and_true, List.set_cons_zero, List.set_cons_succ, List.eraseIdx_cons_zero, List.eraseIdx_cons_succ]
      refine tick_of hs fun w hs => ?_
      have e5 : IntKind.i64.wrap ((i : Int) + 1) = ((i + 1 : Nat) : Int) := by rw [wrap_id (by omega)]; omega
      rw [e5]
      have fin : ∀ w', St W w' (disk d ((twd n.toNat ss).crash mask torn cut) :: own (some ⟨r, 0, none⟩) j c 1 (ss.map fun s => .string (Disk.pad s)) :: L) →
          (∃ i' : Nat, [Value.bool false, .pointer (some ⟨d, 0, none⟩), .slice (some ⟨r, 0, none⟩) j c, .int .i64 x, .int .i64 j, .int .i64 ((i + 1 : Nat) : Int)] = [.bool false, .pointer (some ⟨d, 0, none⟩), .slice (some ⟨r, 0, none⟩) j c, .int .i64 x, .int .i64 j, .int .i64 i'] ∧ i' ≤ j ∧
          St W w' (disk d ((twd n.toNat ss).crash mask torn cut) :: own (some ⟨r, 0, none⟩) j c 1 (ss.map fun s => .string (Disk.pad s)) :: L)) := fun w' hs => ⟨i + 1, rfl, by omega, hs⟩
      refine br_eq (fun ht => ?_) (fun ht => ?_)
      · rw [if_pos ht]
        refine ixs_own (k := 1) hs rfl ⟨by omega, h0⟩ fun r' hr' => ?_
        cases hr'
        refine ld_own (k := 1) hs rfl (v := .string (Disk.pad ss[i])) (by rw [Int.toNat_natCast]; exact hpg) ?_
        unfold slStr
        simp only [nn_some, add_mk, Nat.zero_add, Nat.add_zero, Nat.reduceAdd, Nat.reduceMul, Option.isNone_some, Option.isNone_none, br_true, br_false, Bool.not_true, Bool.not_false, xI_eq, xB_eq, xS_eq, xP_eq, xL_eq, x0_eq, x2_eq, x3_eq, chk_eq, true_and, and_true, List.set_cons_zero, List.set_cons_succ, List.eraseIdx_cons_zero, List.eraseIdx_cons_succ]
        refine ⟨⟨hcut.1, by rw [hps]; exact hcut.2⟩, ?_⟩
        refine platterBlank_spec hs fun w hs => ?_
        simp only [nn_some, add_mk, Nat.zero_add, Nat.add_zero, Nat.reduceAdd, Nat.reduceMul, Option.isNone_some, Option.isNone_none, br_true, br_false, Bool.not_true, Bool.not_false, xI_eq, xB_eq, xS_eq, xP_eq, xL_eq, x0_eq, x2_eq, x3_eq, chk_eq, true_and, and_true, List.set_cons_zero, List.set_cons_succ, List.eraseIdx_cons_zero, List.eraseIdx_cons_succ]
        refine kp_own1 (k := 1) hs rfl (by rw [Int.toNat_natCast]; exact hpg) ?_
        refine ⟨⟨hcut.1, by rw [zeros_size]; exact hcut.2⟩, ⟨by rw [strEx, strEx, zeros_size, hps]; omega, ?_⟩⟩
        have e7 : strEq ((Disk.pad ss[i]).extract 0 x.toNat ++ (zeros 128).extract x.toNat (zeros 128).size) ((Disk.pad ss[i]).extract 0 x.toNat ++ (zeros 128).extract x.toNat (zeros 128).size) = true := by
          rw [strEq_iff]; exact decide_eq_true rfl
        rw [e7]
        simp only [nn_some, add_mk, Nat.zero_add, Nat.add_zero, Nat.reduceAdd, Nat.reduceMul, Option.isNone_some, Option.isNone_none, br_true, br_false, Bool.not_true, Bool.not_false, xI_eq, xB_eq, xS_eq, xP_eq, xL_eq, x0_eq, x2_eq, x3_eq, chk_eq, true_and, and_true, List.set_cons_zero, List.set_cons_succ, List.eraseIdx_cons_zero, List.eraseIdx_cons_succ]
        have e8 : ((i : Int) != torn) = false := by simp [ht]
        rw [e8]
        exact ⟨fin _ hs, by omega⟩
      · rw [if_neg ht]
        have e8 : ((i : Int) == torn) = false := by simp [ht]
        have e9 : ((i : Int) != torn) = true := by simp [ht]
        rw [e8, e9]
        simp only [nn_some, add_mk, Nat.zero_add, Nat.add_zero, Nat.reduceAdd, Nat.reduceMul, Option.isNone_some, Option.isNone_none, br_true, br_false, Bool.not_true, Bool.not_false, xI_eq, xB_eq, xS_eq, xP_eq, xL_eq, x0_eq, x2_eq, x3_eq, chk_eq, true_and, and_true, List.set_cons_zero, List.set_cons_succ, List.eraseIdx_cons_zero, List.eraseIdx_cons_succ]
        by_cases hbit : Disk.bit mask i = true
        · rw [if_pos hbit, strEq_iff, strEq_iff, decide_eq_true rfl]
          simp only [nn_some, add_mk, Nat.zero_add, Nat.add_zero, Nat.reduceAdd, Nat.reduceMul, Option.isNone_some, Option.isNone_none, br_true, br_false, Bool.not_true, Bool.not_false, xI_eq, xB_eq, xS_eq, xP_eq, xL_eq, x0_eq, x2_eq, x3_eq, chk_eq, true_and, and_true, List.set_cons_zero, List.set_cons_succ, List.eraseIdx_cons_zero, List.eraseIdx_cons_succ]
          exact ⟨fin _ hs, by omega⟩
        · rw [if_neg hbit]
          have e10 : strEq (zeros 128) (zeros 128) = true := by rw [strEq_iff]; exact decide_eq_true rfl
          rw [e10]
          simp only [nn_some, add_mk, Nat.zero_add, Nat.add_zero, Nat.reduceAdd, Nat.reduceMul, Option.isNone_some, Option.isNone_none, br_true, br_false, Bool.not_true, Bool.not_false, xI_eq, xB_eq, xS_eq, xP_eq, xL_eq, x0_eq, x2_eq, x3_eq, chk_eq, true_and, and_true, List.set_cons_zero, List.set_cons_succ, List.eraseIdx_cons_zero, List.eraseIdx_cons_succ]
          refine br_of (fun _ => ?_) (fun _ => ?_)
          · exact ⟨fin _ hs, by omega⟩
          · exact ⟨fin _ hs, by omega⟩
  refine br_dec (fun h1 => go _ (fun hf => by cases hf)) (fun h1 => ?_)
  refine br_dec (fun h2 => go _ (fun hf => by cases hf)) (fun h2 => ?_)
  exact go _ (fun hf => ⟨by omega, by omega, by have := of_decide_eq_false hf; omega⟩)

theorem Torn_ok {a0 a2 a3 a4 : Int} {a1 : Option Addr} {n1 c1 : Nat} {x1 : List Value} (_ : (Lit.int .i64 a0).wf = true) (ro1 : Ro W a1 n1 1 x1) (el1 : Elems [.s] n1 x1) (_ : n1 ≤ maxLen) (_ : (Lit.int .u64 a2).wf = true) (_ : (Lit.int .i64 a3).wf = true) (_ : (Lit.int .i64 a4).wf = true) :
    bondstorelaw04_PlatterTorn.u [.int .i64 a0, .slice a1 n1 c1, .int .u64 a2, .int .i64 a3, .int .i64 a4] (fun v w' => v = .bool true ∧ Below W.heap.size W w') W := by
  obtain ⟨ss, h1, h2, h3⟩ := elems_str el1 ro1.1
  subst h2
  unfold bondstorelaw04_PlatterTorn.u
  exact Torn_spec (K := fun v w' => v = .bool true ∧ Below W.heap.size W w') (St.start W) ro1 (fun w' h => ⟨rfl, h.below⟩)
end
end Go.Sep

/- Layer 4's laws over scripts: the calls, and more on disks. -/
namespace Go.Sep
open Go.Den Go.RowKit Go.Prog Go.Plat
set_option linter.unusedSimpArgs false
set_option linter.unusedVariables false

theorem over_all {z ys : List Value} (h : ys.length = z.length) : over z 0 ys = ys := by
  unfold over
  rw [List.take_zero, List.nil_append, Nat.zero_add, List.drop_of_length_le (by omega), List.append_nil]

section
variable {W w : World} {L : List HP} {b : Option Addr} {n e : Nat} {xs : List Value}

/-- An element that a loop takes out into a variable of its own. -/
theorem elem_ro {i : Int} {z ys : List Value} {X : Nat → WK} (h : St W w L) (hr : Ro W b n e xs) (hi : 0 ≤ i ∧ i < n) (hz : z.length = e) (hy : ys.length = e) (h1 : ∀ v ∈ ys, v.oneCell' = true)
    (hx : ∀ j v, ys[j]? = some v → xs[i.toNat * e + j]? = some v) (hK : ∀ r w', St W w' (pt r ys :: L) → X r w') :
    ixs b n i e (fun a => ldN a e fun cs => mk z fun r => chk (cs.length = e) (stN ⟨r, 0, none⟩ cs (X r))) w := by
  refine ixs_ro hr hi fun a ha => ?_
  refine ldN_ro h hr ha hy hx ?_
  refine mk_of h fun r w hs => ?_
  refine ⟨hy, stN_pt (k := 0) hs rfl (by omega) h1 fun w hs => ?_⟩
  rw [over_all (by omega)] at hs
  exact hK r w hs
end

/-! ### Calls -/

structure PCall where
  kind : Int
  n : Int
  data : ByteArray
  mask : Int
  cut : Int

def callCells (c : PCall) : List Value := [.int .i64 c.kind, .int .i64 c.n, .string c.data, .int .u64 c.mask, .int .i64 c.cut]

structure PCall.Ok (c : PCall) : Prop where
  n : (Lit.int .i64 c.n).wf = true
  data : c.data.size ≤ reachBytes
  mask : (Lit.int .u64 c.mask).wf = true

theorem callCells_one (c : PCall) : ∀ v ∈ callCells c, v.oneCell' = true := by simp [callCells, Value.oneCell']

theorem calls_get {cs : List PCall} {j : Nat} {c : PCall} (h : cs[j]? = some c) : ∀ i v, (callCells c)[i]? = some v → (cs.flatMap callCells)[j * 5 + i]? = some v := by
  induction cs generalizing j with
  | nil => simp at h
  | cons d cs ih =>
    intro i v hv
    cases j with
    | zero =>
      simp at h; subst h
      rw [List.flatMap_cons, Nat.zero_mul, Nat.zero_add, List.getElem?_append_left]
      · exact hv
      · exact (List.getElem?_eq_some_iff.1 hv).1
    | succ j =>
      simp only [List.getElem?_cons_succ] at h
      rw [List.flatMap_cons, List.getElem?_append_right (by simp [callCells]; omega), ← ih h i v hv]
      congr 1
      simp [callCells]; omega

theorem elems_calls {n : Nat} {xs : List Value} (he : Elems [.i .i64, .i .i64, .s, .i .u64, .i .i64] n xs) (hl : xs.length = n * 5) : ∃ cs : List PCall, cs.length = n ∧ xs = cs.flatMap callCells ∧ ∀ c ∈ cs, c.Ok :=
  elems_list callCells PCall.Ok (fun _ => rfl) (fun o ht => by
    obtain ⟨v0, g0, a0, rfl, h0⟩ := ht 0 _ rfl
    obtain ⟨v1, g1, a1, rfl, h1⟩ := ht 1 _ rfl
    obtain ⟨v2, g2, a2, rfl, h2⟩ := ht 2 _ rfl
    obtain ⟨v3, g3, a3, rfl, h3⟩ := ht 3 _ rfl
    obtain ⟨v4, g4, a4, rfl, h4⟩ := ht 4 _ rfl
    refine ⟨⟨a0, a1, a2, a3, a4⟩, ⟨h1, h2, h3⟩, fun j hj => ?_⟩
    match j, hj with
    | 0, _ => exact g0
    | 1, _ => exact g1
    | 2, _ => exact g2
    | 3, _ => exact g3
    | 4, _ => exact g4) he hl

section
variable {W w : World} {L : List HP}

theorem great_spec {sb : Option Addr} {sn sc : Nat} {cs : List PCall} {K : VK} (h : St W w L) (hr : Ro W sb sn 5 (cs.flatMap callCells)) (hl : cs.length = sn) (hmx : sn ≤ maxLen) (hok : ∀ c ∈ cs, c.Ok)
    (hK : ∀ b w', (b = false → sn ≤ 80) → St W w' L → K (.bool b) w') : bondstorelaw04_great sb sn sc K w := by
  unfold bondstorelaw04_great
  refine ⟨fun us w' => ∃ (j : Nat) (m : Int), us = [.bool false, .int .i64 m, .slice sb sn sc, .int .i64 sn, .int .i64 j] ∧ j ≤ sn ∧ 0 ≤ m ∧ m ≤ 8192 ∧ St W w' L,
    fun us _ => match us with | [_, _, _, _, .int _ j] => sn - j.toNat | _ => 0, ⟨0, 0, rfl, Nat.zero_le _, by decide, by decide, h⟩, ?_⟩
  rintro b1 m sb2 sn2 sc2 n2 n3 w2 ⟨j, _, he, hj, hm0, hm1, hs⟩
  cases he
  have hmx' : sn ≤ 9223372036854775807 := hmx
  refine br_dec (fun h0 => ?_) (fun h0 => ?_)
  · have hlt : j < cs.length := by omega
    have hg : cs[j]? = some cs[j] := by simp [hlt]
    have hc := hok _ (List.getElem_mem hlt)
    refine elem_ro (ys := callCells cs[j]) hs hr ⟨by omega, h0⟩ rfl rfl (callCells_one _) (fun i v hi => by rw [Int.toNat_natCast]; exact calls_get hg i v hi) fun r w hs => ?_
    simp only [nn_some, add_mk, Nat.zero_add, Nat.add_zero, Nat.reduceAdd, Nat.reduceMul, Option.isNone_some, Option.isNone_none, br_true, br_false, Bool.not_true, Bool.not_false, xI_eq, xB_eq, xS_eq, xP_eq, xL_eq, x0_eq, x2_eq, x3_eq, chk_eq, true_and, and_true, List.set_cons_zero, List.set_cons_succ, List.eraseIdx_cons_zero, List.eraseIdx_cons_succ]
    refine ld_pt (k := 0) hs rfl rfl ?_
    simp only [nn_some, add_mk, Nat.zero_add, Nat.add_zero, Nat.reduceAdd, Nat.reduceMul, Option.isNone_some, Option.isNone_none, br_true, br_false, Bool.not_true, Bool.not_false, xI_eq, xB_eq, xS_eq, xP_eq, xL_eq, x0_eq, x2_eq, x3_eq, chk_eq, true_and, and_true, List.set_cons_zero, List.set_cons_succ, List.eraseIdx_cons_zero, List.eraseIdx_cons_succ]
    have hd : cs[j].data.size ≤ 140737488351232 := hc.data
    have e1 : IntKind.i64.wrap (m + (cs[j].data.size : Int)) = m + (cs[j].data.size : Int) := wrap_id (by omega)
    rw [e1]
    have e5 : IntKind.i64.wrap ((j : Int) + 1) = ((j + 1 : Nat) : Int) := by rw [wrap_id (by omega)]; omega
    rw [e5]
    generalize hq : decide (m + (cs[j].data.size : Int) > 8192) = q
    cases q <;> simp only [br_true, br_false, decide_eq_true_eq, decide_eq_false_iff_not] at hq ⊢
    · exact ⟨⟨j + 1, _, rfl, by omega, by omega, by omega, hs.drop⟩, by omega⟩
    · exact hK true w (fun h => by cases h) hs.drop
  · refine hK _ w2 (fun hf => ?_) hs
    have := of_decide_eq_false hf
    omega
end

/-! ### Disks that aren't armed -/

namespace Dk
variable {D : Go.Plat.Disk}
open Go.Plat.Disk (last put pad)

theorem fails0 (h : D.arm = 0) : D.fails = false := by simp [Go.Plat.Disk.fails, h]
theorem tick0 (h : D.arm = 0) : D.tick.arm = 0 := by simp [Go.Plat.Disk.tick, h]

theorem write0 (h : D.arm = 0) (i : Int) (s : ByteArray) : D.write i s = if ¬ D.is i ∨ 128 < s.size then (D, 1) else ({ Go.Plat.Disk.tick D with later := D.later ++ [(i, pad s)] }, 0) := by
  unfold Go.Plat.Disk.write
  rw [fails0 h]; rfl

theorem write0_arm (h : D.arm = 0) (i : Int) (s : ByteArray) : (D.write i s).1.arm = 0 := by
  rw [write0 h]; split
  · exact h
  · exact tick0 h

theorem sync0 (h : D.arm = 0) : D.sync = ({ D.tick with safe := D.later.foldl put D.safe, later := [] }, 0) := by
  unfold Go.Plat.Disk.sync
  rw [fails0 h]; rfl

theorem last_append (l : List (Int × ByteArray)) (p : Int × ByteArray) (i : Int) : last (l ++ [p]) i = if p.1 = i then some p.2 else last l i := by
  unfold last
  rw [List.reverse_append]
  simp only [List.reverse_cons, List.reverse_nil, List.nil_append, List.singleton_append, List.find?_cons]
  by_cases h : p.1 = i
  · simp [h]
  · have : (p.1 == i) = false := by simp [h]
    rw [this, if_neg h]

theorem now_write0 (h : D.arm = 0) (n i : Int) (s : ByteArray) : (D.write n s).1.now i = if (D.is n ∧ s.size ≤ 128) ∧ n = i then pad s else D.now i := by
  rw [write0 h]
  by_cases hw : ¬ D.is n ∨ 128 < s.size
  · rw [if_pos hw, if_neg]
    rintro ⟨⟨h1, h2⟩, _⟩
    rcases hw with hw | hw
    · exact hw h1
    · omega
  · rw [if_neg hw]
    have h1 : D.is n := by
      by_cases hh : D.is n
      · exact hh
      · exact absurd (.inl hh) hw
    have h2 : s.size ≤ 128 := by
      by_cases hh : s.size ≤ 128
      · exact hh
      · exact absurd (.inr (by omega)) hw
    simp only [Go.Plat.Disk.now, Go.Plat.Disk.tick, last_append]
    by_cases hni : n = i
    · rw [if_pos hni, if_pos ⟨⟨h1, h2⟩, hni⟩]; rfl
    · rw [if_neg hni, if_neg (fun hh => hni hh.2)]

theorem last_cons (l : List (Int × ByteArray)) (p : Int × ByteArray) (i : Int) : last (p :: l) i = (last l i).or (if p.1 = i then some p.2 else none) := by
  unfold last
  rw [List.reverse_cons, List.find?_append]
  by_cases h : p.1 = i
  · cases List.find? (fun p => p.1 == i) l.reverse <;> simp [h]
  · have : (p.1 == i) = false := by simp [h]
    cases List.find? (fun p => p.1 == i) l.reverse <;> simp [h, this]

/-- What the writes leave of a sector. -/
theorem foldl_put_get {i : Int} (hi : 0 ≤ i) : ∀ (l : List (Int × ByteArray)) (safe : List ByteArray), i < safe.length → (∀ p ∈ l, 0 ≤ p.1) → (l.foldl put safe).getD i.toNat .empty = (last l i).getD (safe.getD i.toNat .empty) := by
  intro l
  induction l with
  | nil => intro safe _ _; rfl
  | cons p l ih =>
    intro safe hs hp
    rw [List.foldl_cons, last_cons, ih _ (by simp [put]; exact hs) (fun q hq => hp q (List.mem_cons_of_mem _ hq))]
    have hp0 := hp p (by simp)
    have hlen : i.toNat < safe.length := by omega
    have e : (put safe p).getD i.toNat .empty = if p.1 = i then p.2 else safe.getD i.toNat .empty := by
      unfold put
      by_cases hpi : p.1 = i
      · rw [if_pos hpi, hpi, List.getD_eq_getElem?_getD, List.getElem?_set_self hlen]; rfl
      · rw [if_neg hpi, List.getD_eq_getElem?_getD, List.getElem?_set_ne (by omega), ← List.getD_eq_getElem?_getD]
    rw [e]
    cases last l i with
    | some x => rfl
    | none => by_cases hpi : p.1 = i <;> simp [hpi]

theorem now_sync0 (h : D.arm = 0) (hok : D.Ok) {i : Int} (hi : D.is i) : D.sync.1.now i = D.now i := by
  rw [sync0 h]
  have := foldl_put_get hi.1 D.later D.safe hi.2 (fun p hp => (hok.later p hp).2.1)
  simp only [Go.Plat.Disk.now, last, List.reverse_nil, List.find?_nil, Option.map_none, Option.getD_none]
  exact this

theorem sync_len : D.sync.1.safe.length = D.safe.length ∧ D.sync.1.later.length ≤ D.later.length := by
  unfold Go.Plat.Disk.sync
  split
  · exact ⟨rfl, Nat.le_refl _⟩
  · exact ⟨foldl_put_length _ _, Nat.zero_le _⟩

theorem sync0_arm (h : D.arm = 0) : D.sync.1.arm = 0 := by rw [sync0 h]; exact tick0 h
end Dk
end Go.Sep
