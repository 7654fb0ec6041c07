/- Soundness: loads, stores, new rows, 'append'. -/
import Derived.Test.YtidhimamegfdaaaDoorDen6
namespace Go.Den
set_option linter.unusedSimpArgs false
set_option linter.unusedVariables false
section
variable {P : Program} {K : VK} {w : World}

def placeM (f : Field) : Sem (Nat × Nat) := do pure (f.offset, ← sizeOf f.type)

theorem placesL_spec : ∀ {fs : List Field} {pl : List (Nat × Nat)}, placesL P fs = some pl → ∀ w, (fs.mapM placeM).run P w = .ok pl w
  | [], pl, h, w => by simp only [placesL, Option.some.injEq] at h; subst h; rfl
  | f :: fs, pl, h, w => by
    simp only [placesL] at h
    cases hi : P.info? f.type with
    | none => simp [hi] at h
    | some i =>
      cases hr : placesL P fs with
      | none => simp [hi, hr] at h
      | some r =>
        simp only [hi, hr, Option.some.injEq] at h
        subst h
        have h1 : (placeM f).run P w = .ok (f.offset, i.size) w := by simp [placeM, run_sizeOf hi]
        rw [List.mapM_cons, Sem.run_bind, h1, Result.andThen_ok, Sem.run_bind, placesL_spec hr w]; rfl

theorem run_zeroOf {t : TypeId} {z : Value} (h : zeroOf P t = some z) (w : World) : (zeroValue t).run P w = .ok z w := by
  unfold zeroOf at h
  cases hi : P.info? t with
  | none => simp [hi] at h
  | some i =>
    simp only [hi] at h
    simp [zeroValue, typeInfo, hi, h]

theorem buildDen_pv {t : TypeId} {ps : List (Nat × Value)} (hh : buildDen P t ps K w) : PV P (Instr.build t ⟨ps⟩) w K := by
  unfold buildDen at hh
  generalize hz : zeroOf P t = z at hh
  generalize hu : P.underlying t = u at hh
  split at hh
  · rename_i z fs
    cases hp : placesL P fs.toList with
    | none => simp only [hp, no] at hh
    | some pl =>
      simp only [hp] at hh
      cases hc : catF z.toList pl 0 0 (ps.map fun p => (p.1, cellsL p.2)) with
      | none => simp only [hc, no] at hh
      | some y =>
        obtain ⟨cs, p⟩ := y
        simp only [hc] at hh
        obtain ⟨hpp, hk⟩ := hh
        refine ⟨_, fun w' => ?_, hk⟩
        have hm : (fs.mapM placeM).run P w' = .ok ⟨pl⟩ w' := by
          rw [← Array.toArray_toList (xs := fs), List.mapM_toArray, Sem.run_map, placesL_spec hp w']; rfl
        have hf := catF_fill pl ((⟨pl⟩ : Array (Nat × Nat))[·]?) (fun j x hx => by simpa using hx) z.toList pl 0 0 [] ps cs p rfl rfl (Nat.zero_le _) hc hpp
        simp only [List.nil_append, List.drop_zero] at hf
        simp only [Instr.build, Sem.run_bind, run_zeroOf hz, Result.andThen_ok, run_und hu, Value.cells]
        rw [show (fs.mapM fun f => (do let a ← sizeOf f.type; pure (f.offset, a) : Sem (Nat × Nat))) = fs.mapM placeM from rfl, hm]
        simp only [Result.andThen_ok]
        rw [hf]; rfl
  · rename_i z n e
    cases hi : P.info? e with
    | none => simp only [hi, no] at hh
    | some i =>
      simp only [hi] at hh
      cases hc : catF z.toList ((List.range n).map fun j => (j * i.size, i.size)) 0 0 (ps.map fun p => (p.1, cellsL p.2)) with
      | none => simp only [hc, no] at hh
      | some y =>
        obtain ⟨cs, p⟩ := y
        simp only [hc] at hh
        obtain ⟨hpp, hk⟩ := hh
        refine ⟨_, fun w' => ?_, hk⟩
        have hf := catF_fill ((List.range n).map fun j => (j * i.size, i.size)) (fun j => some (j * i.size, i.size)) (fun j x hx => by
          rw [List.getElem?_map] at hx
          cases hr : (List.range n)[j]? with
          | none => simp [hr] at hx
          | some m =>
            have : m = j := by
              rw [List.getElem?_range] at hr
              · exact (Option.some.inj hr).symm
              · have := (List.getElem?_eq_some_iff.1 hr).1; simpa using this
            subst this; simpa [hr] using hx) z.toList _ 0 0 [] ps cs p rfl rfl (Nat.zero_le _) hc hpp
        simp only [List.nil_append, List.drop_zero] at hf
        simp only [Instr.build, Sem.run_bind, run_zeroOf hz, Result.andThen_ok, run_und hu, Value.cells, run_sizeOf hi]
        rw [hf]; rfl
  · exact hh.elim

theorem loadDen_spec {t : TypeId} {a : Addr} {K : List Value → VK} (hh : loadDen P t a K w) :
    ∃ v cs, Holds w a cs ∧ (∀ w', Holds w' a cs → (loadVar t a).run P w' = .ok v w') ∧ K cs v w := by
  unfold loadDen at hh
  cases hu : P.underlying t with
  | none => simp only [hu, no] at hh
  | some d =>
    cases hi : P.info? t with
    | none => simp only [hu, hi, no] at hh
    | some i =>
      simp only [hu, hi] at hh
      cases ha : isAggD d with
      | true =>
        simp only [ha, cond_true] at hh
        obtain ⟨cs, hl, hH, hk⟩ := hh
        refine ⟨_, cs, hH, fun w' hH' => ?_, hk⟩
        simp only [loadVar, Sem.run_bind, isAggD_run hu, Result.andThen_ok, ha, if_true, run_sizeOf hi]
        rw [← hl, run_loadCells_list w' a cs hH']; rfl
      | false =>
        simp only [ha, cond_false] at hh
        cases hz : i.zero with
        | none => simp only [hz, no] at hh
        | some z =>
          simp only [hz] at hh
          obtain ⟨v, hc, hk⟩ := hh
          have a0 : a.add 0 = a := by simp [Addr.add]
          refine ⟨v, [v], fun j u hj => ?_, fun w' hH' => ?_, xT1_out (K := fun v => K [v] v) hk⟩
          · cases j with
            | zero => simp only [List.getElem?_cons_zero, Option.some.injEq] at hj; subst hj; rw [a0]; exact hc
            | succ j => simp at hj
          · have := hH' 0 v rfl
            rw [a0] at this
            simp only [loadVar, Sem.run_bind, isAggD_run hu, Result.andThen_ok, ha, Bool.false_eq_true, if_false, run_load, this]

theorem cell_set {a b : Addr} {v : Value} (h : ∃ o, w.cell? b = some o) : ∃ o, (w.setCell a v).cell? b = some o := by
  obtain ⟨o, h⟩ := h
  by_cases hab : a = b
  · subst hab; exact ⟨v, World.cell?_setCell_same w a v h⟩
  · exact ⟨o, by rw [World.cell?_setCell_other w a b v hab]; exact h⟩

theorem CanSet.tail {a : Addr} {i : Nat} {v : Value} {cs : List Value} (h : CanSet w a i (v :: cs)) : CanSet (w.setCell (a.add i) v) a (i + 1) cs := by
  refine ⟨fun u hu => h.1 u (List.mem_cons_of_mem _ hu), fun j hj => ?_⟩
  have := h.2 (j + 1) (by simp; omega)
  rw [show i + 1 + j = i + (j + 1) from by omega]
  exact ⟨cell_set this.1, by rw [World.frozen?_setCell]; exact this.2⟩

theorem run_setL : ∀ (cs : List Value) (a : Addr) (i : Nat) (w : World), CanSet w a i cs → (storeCells a cs i).run P w = .ok () (setL w a i cs)
  | [], a, i, w, h => rfl
  | v :: cs, a, i, w, h => by
    have h0 := h.2 0 (by simp)
    obtain ⟨⟨o, ho⟩, hf⟩ := h0
    simp only [Nat.add_zero] at ho hf
    simp only [storeCells, Sem.run_bind, run_store P w (a.add i) v .plain (h.1 v (by simp)), ho, hf, setL]
    exact run_setL cs a (i + 1) _ h.tail

theorem storeDen_spec {t : TypeId} {a : Addr} {v : Value} (hh : storeDen P t a v K w) : ∃ w', (storeVar t a v).run P w = .ok () w' ∧ K undef w' := by
  unfold storeDen at hh
  cases hi : P.info? t with
  | none => simp only [hi, no] at hh
  | some i =>
    simp only [hi] at hh
    have one : v.cells.toList = [v] → (bif Nat.beq i.size 1 then st a v (K undef) else no) w → ∃ w', (storeVar t a v).run P w = .ok () w' ∧ K undef w' := by
      intro hv hh
      cases hs : Nat.beq i.size 1 with
      | false => simp [hs, no] at hh
      | true =>
        have hs' : i.size = 1 := Nat.eq_of_beq_eq_true hs
        simp only [hs, cond_true] at hh
        obtain ⟨h1, ⟨o, ho⟩, hf, hk⟩ := hh
        have a0 : a.add 0 = a := by simp [Addr.add]
        refine ⟨_, ?_, hk⟩
        have hsz : v.cells.size = 1 := by rw [← Array.length_toList, hv]; rfl
        simp only [storeVar, Sem.run_bind, run_sizeOf hi, Result.andThen_ok, hs', hsz, ne_eq, not_true, if_false, hv]
        have := run_setL (P := P) [v] a 0 w ⟨fun u hu => by simp at hu; subst hu; exact h1, fun j hj => by simp at hj; subst hj; simp only [Nat.add_zero, a0]; exact ⟨⟨o, ho⟩, hf⟩⟩
        simp only [setL, a0] at this
        exact this
    split at hh
    · rename_i cs
      obtain ⟨hl, hc, hk⟩ := hh
      refine ⟨_, ?_, hk⟩
      have hl' : cs.size = i.size := by simpa using hl
      simp only [storeVar, Sem.run_bind, run_sizeOf hi, Result.andThen_ok, Value.cells, hl', ne_eq, not_true, if_false]
      exact run_setL _ _ _ _ hc
    · rename_i hv
      refine one ?_ hh
      cases v <;> first | rfl | exact absurd rfl (hv _)

end
end Go.Den
