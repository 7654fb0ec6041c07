/- Soundness: structs that are built; loads, stores, new rows, 'append'. -/
import Derived.Test.YtidhimamegfdaaaDoorDen5
namespace Go.Den
set_option linter.unusedSimpArgs false
set_option linter.unusedVariables false
section
variable {P : Program} {K : VK} {w : World}

theorem cells_toList (v : Value) : v.cells.toList = cellsL v := by cases v <;> rfl

theorem foldl_set : ∀ (cs : List Value) (A B C : List Value) (k off : Nat), A.length = off + k → B.length = cs.length →
    (cs.zipIdx k).foldl (fun (z : Array Value) (p : Value × Nat) => z.setIfInBounds (off + p.2) p.1) ⟨A ++ B ++ C⟩ = ⟨A ++ cs ++ C⟩
  | [], A, B, C, k, off, h1, h2 => by
    have : B = [] := List.eq_nil_of_length_eq_zero h2
    subst this; rfl
  | c :: cs, A, B, C, k, off, h1, h2 => by
    cases B with
    | nil => simp at h2
    | cons b B =>
      simp only [List.zipIdx_cons, List.foldl_cons]
      have e : (⟨A ++ (b :: B) ++ C⟩ : Array Value).setIfInBounds (off + k) c = ⟨(A ++ [c]) ++ B ++ C⟩ := by
        apply Array.ext'
        rw [Array.toList_setIfInBounds]
        simp only [List.append_assoc, List.cons_append, List.nil_append]
        rw [← h1, List.set_append]
        simp
      rw [e, foldl_set cs (A ++ [c]) B C (k + 1) off (by simp; omega) (by simpa using h2)]
      simp

theorem fill_step (A B C : List Value) (v : Value) (off : Nat) (h1 : A.length = off) (h2 : B.length = (cellsL v).length) :
    v.cells.zipIdx.foldl (fun (z : Array Value) (p : Value × Nat) => z.setIfInBounds (off + p.2) p.1) ⟨A ++ B ++ C⟩ = ⟨A ++ cellsL v ++ C⟩ := by
  rw [← Array.foldl_toList, Array.toList_zipIdx, cells_toList]
  exact foldl_set (cellsL v) A B C 0 off (by omega) h2

theorem catF_fill (PL : List (Nat × Nat)) (place : Nat → Option (Nat × Nat)) (hp : ∀ j x, PL[j]? = some x → place j = some x) (zero : List Value) :
    ∀ (fs : List (Nat × Nat)) (at_ i : Nat) (done : List Value) (ps : List (Nat × Value)) (r : List Value) (p : Prop), fs = PL.drop i → done.length = at_ → at_ ≤ zero.length →
      catF zero fs at_ i (ps.map fun q => (q.1, cellsL q.2)) = some (r, p) → p →
      Instr.fill place ⟨done ++ zero.drop at_⟩ ps = some ⟨done ++ r⟩
  | [], at_, i, done, ps, r, p, hfs, hd, hz, h, hpp => by
    simp only [catF] at h
    cases hb : Nat.beq at_ zero.length with
    | false => simp [hb] at h
    | true =>
      simp only [hb, cond_true] at h
      have he := Nat.eq_of_beq_eq_true hb
      cases ps with
      | nil =>
        simp only [List.map_nil, Option.some.injEq, Prod.mk.injEq] at h
        obtain ⟨rfl, _⟩ := h
        simp [Instr.fill, he]
      | cons q ps => simp at h
  | (off, n) :: fs, at_, i, done, ps, r, p, hfs, hd, hz, h, hpp => by
    simp only [catF] at h
    have hPL : PL[i]? = some (off, n) := by
      have : (PL.drop i)[0]? = some (off, n) := by rw [← hfs]; rfl
      simpa using this
    have hfs' : fs = PL.drop (i + 1) := by
      have : (PL.drop i).tail = fs := by rw [← hfs]; rfl
      rw [← this, List.tail_drop]
    cases hb : Nat.beq off at_ with
    | false => simp [hb] at h
    | true =>
      simp only [hb, cond_true] at h
      have he := Nat.eq_of_beq_eq_true hb
      subst he
      have skip : ∀ r', catF zero fs (off + n) (i + 1) (ps.map fun q => (q.1, cellsL q.2)) = some (r', p) → r = (zero.drop off).take n ++ r' → off + n ≤ zero.length → Instr.fill place ⟨done ++ zero.drop off⟩ ps = some ⟨done ++ r⟩ := by
        intro r' h' hr hle
        have := catF_fill PL place hp zero fs (off + n) (i + 1) (done ++ (zero.drop off).take n) ps r' p hfs' (by simp; omega) hle h' hpp
        rw [List.append_assoc, List.append_assoc] at this
        rw [← hr] at this
        rw [← this]
        congr 3
        rw [← List.drop_drop, List.take_append_drop]
      have bound : ∀ (fs : List (Nat × Nat)) (a i : Nat) (qs : List (Nat × List Value)) (x : List Value × Prop), catF zero fs a i qs = some x → a ≤ zero.length := by
        intro fs
        induction fs with
        | nil =>
          intro a i qs x hx
          simp only [catF] at hx
          cases hb : Nat.beq a zero.length with
          | false => simp [hb] at hx
          | true => exact Nat.le_of_eq (Nat.eq_of_beq_eq_true hb)
        | cons f fs ih =>
          intro a i qs x hx
          obtain ⟨o, m⟩ := f
          simp only [catF] at hx
          cases hb : Nat.beq o a with
          | false => simp [hb] at hx
          | true =>
            simp only [hb, cond_true] at hx
            have key : ∀ qs', (∃ y, catF zero fs (a + m) (i + 1) qs' = some y) → a ≤ zero.length := fun qs' ⟨y, hy⟩ => by have := ih _ _ _ _ hy; omega
            cases qs with
            | nil =>
              cases hc : catF zero fs (a + m) (i + 1) [] with
              | none => simp [hc] at hx
              | some y => exact key _ ⟨y, hc⟩
            | cons q qs =>
              obtain ⟨j, cs⟩ := q
              cases hj : Nat.beq i j with
              | true =>
                simp only [hj, cond_true] at hx
                cases hc : catF zero fs (a + m) (i + 1) qs with
                | none => simp [hc] at hx
                | some y => exact key _ ⟨y, hc⟩
              | false =>
                simp only [hj, cond_false] at hx
                cases hc : catF zero fs (a + m) (i + 1) ((j, cs) :: qs) with
                | none => simp [hc] at hx
                | some y => exact key _ ⟨y, hc⟩
      cases ps with
      | nil =>
        simp only [List.map_nil] at h skip
        cases hc : catF zero fs (off + n) (i + 1) [] with
        | none => simp [hc] at h
        | some y =>
          obtain ⟨r', p'⟩ := y
          simp only [hc, Option.some.injEq, Prod.mk.injEq] at h
          obtain ⟨h1, h2⟩ := h
          subst h2
          exact skip r' hc h1.symm (bound _ _ _ _ _ hc)
      | cons q ps =>
        obtain ⟨j, v⟩ := q
        simp only [List.map_cons] at h skip
        cases hj : Nat.beq i j with
        | true =>
          simp only [hj, cond_true] at h
          have hij := Nat.eq_of_beq_eq_true hj
          subst hij
          cases hc : catF zero fs (off + n) (i + 1) (ps.map fun q => (q.1, cellsL q.2)) with
          | none => simp [hc] at h
          | some y =>
            obtain ⟨r', p'⟩ := y
            simp only [hc, Option.some.injEq, Prod.mk.injEq] at h
            obtain ⟨h1, h2⟩ := h
            subst h2
            obtain ⟨hlen, hp'⟩ := hpp
            have hle := bound _ _ _ _ _ hc
            have := catF_fill PL place hp zero fs (off + n) (i + 1) (done ++ cellsL v) ps r' p' hfs' (by simp; omega) hle hc hp'
            rw [List.append_assoc, List.append_assoc, h1] at this
            simp only [Instr.fill, hp i _ hPL]
            have hsz : v.cells.size = n := by rw [← hlen, ← cells_toList]; simp
            have hnn : ¬ ((decide (v.cells.size ≠ n) || decide (off + v.cells.size > (⟨done ++ zero.drop off⟩ : Array Value).size)) = true) := by
              simp [hsz]; omega
            rw [if_neg hnn]
            have e : (⟨done ++ zero.drop off⟩ : Array Value) = ⟨done ++ (zero.drop off).take n ++ zero.drop (off + n)⟩ := by
              rw [List.append_assoc, ← List.drop_drop, List.take_append_drop]
            rw [e, fill_step done ((zero.drop off).take n) (zero.drop (off + n)) v off hd (by simp [hlen]; omega)]
            rw [← this, List.append_assoc]
        | false =>
          simp only [hj, cond_false] at h
          cases hc : catF zero fs (off + n) (i + 1) ((j, cellsL v) :: ps.map fun q => (q.1, cellsL q.2)) with
          | none => simp [hc] at h
          | some y =>
            obtain ⟨r', p'⟩ := y
            simp only [hc, Option.some.injEq, Prod.mk.injEq] at h
            obtain ⟨h1, h2⟩ := h
            subst h2
            exact skip r' hc h1.symm (bound _ _ _ _ _ hc)

end
end Go.Den
