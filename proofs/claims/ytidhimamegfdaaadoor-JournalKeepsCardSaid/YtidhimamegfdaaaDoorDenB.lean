/- DenB: Den7, Den8, Den9, Den10, Den11, merged: part of the proof: see the last text. -/
import Derived.Test.YtidhimamegfdaaaDoorDenA
import Derived.Laws.BytesString
import Derived.Laws.MakeOwn
/- Soundness: loads, stores, new rows, 'append'. -/
namespace Go.Den
set_option linter.unusedSimpArgs false
set_option linter.unusedVariables false
section
variable {P : Program} {K : VK} {w : World}

def placeM (f : Field) : Sem (Nat × Nat) := do pure (f.offset, ← sizeOf f.type)

theorem placesL_spec : ∀ {fs : List Field} {pl : List (Nat × Nat)}, placesL P fs = some pl → ∀ w, (fs.mapM placeM).run P w = .ok pl w
  | [], pl, h, w => by simp only [placesL, Option.some.injEq] at h; subst h; rfl
  | f :: fs, pl, h, w => by
    simp only [placesL] at h
    cases hi : P.info? f.type with
    | none => simp [hi] at h
    | some i =>
      cases hr : placesL P fs with
      | none => simp [hi, hr] at h
      | some r =>
        simp only [hi, hr, Option.some.injEq] at h
        subst h
        have h1 : (placeM f).run P w = .ok (f.offset, i.size) w := by simp [placeM, run_sizeOf hi]
        rw [List.mapM_cons, Sem.run_bind, h1, Result.andThen_ok, Sem.run_bind, placesL_spec hr w]; rfl

theorem run_zeroOf {t : TypeId} {z : Value} (h : zeroOf P t = some z) (w : World) : (zeroValue t).run P w = .ok z w := by
  unfold zeroOf at h
  cases hi : P.info? t with
  | none => simp [hi] at h
  | some i =>
    simp only [hi] at h
    simp [zeroValue, typeInfo, hi, h]

theorem buildDen_pv {t : TypeId} {ps : List (Nat × Value)} (hh : buildDen P t ps K w) : PV P (Instr.build t ⟨ps⟩) w K := by
  unfold buildDen at hh
  generalize hz : zeroOf P t = z at hh
  generalize hu : P.underlying t = u at hh
  split at hh
  · rename_i z fs
    cases hp : placesL P fs.toList with
    | none => simp only [hp, no] at hh
    | some pl =>
      simp only [hp] at hh
      cases hc : catF z.toList pl 0 0 (ps.map fun p => (p.1, cellsL p.2)) with
      | none => simp only [hc, no] at hh
      | some y =>
        obtain ⟨cs, p⟩ := y
        simp only [hc] at hh
        obtain ⟨hpp, hk⟩ := hh
        refine ⟨_, fun w' => ?_, hk⟩
        have hm : (fs.mapM placeM).run P w' = .ok ⟨pl⟩ w' := by
          rw [← Array.toArray_toList (xs := fs), List.mapM_toArray, Sem.run_map, placesL_spec hp w']; rfl
        have hf := catF_fill pl ((⟨pl⟩ : Array (Nat × Nat))[·]?) (fun j x hx => by simpa using hx) z.toList pl 0 0 [] ps cs p rfl rfl (Nat.zero_le _) hc hpp
        simp only [List.nil_append, List.drop_zero] at hf
        simp only [Instr.build, Sem.run_bind, run_zeroOf hz, Result.andThen_ok, run_und hu, Value.cells]
        rw [show (fs.mapM fun f => (do let a ← sizeOf f.type; pure (f.offset, a) : Sem (Nat × Nat))) = fs.mapM placeM from rfl, hm]
        simp only [Result.andThen_ok]
        rw [hf]; rfl
  · rename_i z n e
    cases hi : P.info? e with
    | none => simp only [hi, no] at hh
    | some i =>
      simp only [hi] at hh
      cases hc : catF z.toList ((List.range n).map fun j => (j * i.size, i.size)) 0 0 (ps.map fun p => (p.1, cellsL p.2)) with
      | none => simp only [hc, no] at hh
      | some y =>
        obtain ⟨cs, p⟩ := y
        simp only [hc] at hh
        obtain ⟨hpp, hk⟩ := hh
        refine ⟨_, fun w' => ?_, hk⟩
        have hf := catF_fill ((List.range n).map fun j => (j * i.size, i.size)) (fun j => some (j * i.size, i.size)) (fun j x hx => by
          rw [List.getElem?_map] at hx
          cases hr : (List.range n)[j]? with
          | none => simp [hr] at hx
          | some m =>
            have : m = j := by
              rw [List.getElem?_range] at hr
              · exact (Option.some.inj hr).symm
              · have := (List.getElem?_eq_some_iff.1 hr).1; simpa using this
            subst this; simpa [hr] using hx) z.toList _ 0 0 [] ps cs p rfl rfl (Nat.zero_le _) hc hpp
        simp only [List.nil_append, List.drop_zero] at hf
        simp only [Instr.build, Sem.run_bind, run_zeroOf hz, Result.andThen_ok, run_und hu, Value.cells, run_sizeOf hi]
        rw [hf]; rfl
  · exact hh.elim

theorem loadDen_spec {t : TypeId} {a : Addr} {K : List Value → VK} (hh : loadDen P t a K w) :
    ∃ v cs, Holds w a cs ∧ (∀ w', Holds w' a cs → (loadVar t a).run P w' = .ok v w') ∧ K cs v w := by
  unfold loadDen at hh
  cases hu : P.underlying t with
  | none => simp only [hu, no] at hh
  | some d =>
    cases hi : P.info? t with
    | none => simp only [hu, hi, no] at hh
    | some i =>
      simp only [hu, hi] at hh
      cases ha : isAggD d with
      | true =>
        simp only [ha, cond_true] at hh
        obtain ⟨cs, hl, hH, hk⟩ := hh
        refine ⟨_, cs, hH, fun w' hH' => ?_, hk⟩
        simp only [loadVar, Sem.run_bind, isAggD_run hu, Result.andThen_ok, ha, if_true, run_sizeOf hi]
        rw [← hl, run_loadCells_list w' a cs hH']; rfl
      | false =>
        simp only [ha, cond_false] at hh
        cases hz : i.zero with
        | none => simp only [hz, no] at hh
        | some z =>
          simp only [hz] at hh
          obtain ⟨v, hc, hk⟩ := hh
          have a0 : a.add 0 = a := by simp [Addr.add]
          refine ⟨v, [v], fun j u hj => ?_, fun w' hH' => ?_, xT1_out (K := fun v => K [v] v) hk⟩
          · cases j with
            | zero => simp only [List.getElem?_cons_zero, Option.some.injEq] at hj; subst hj; rw [a0]; exact hc
            | succ j => simp at hj
          · have := hH' 0 v rfl
            rw [a0] at this
            simp only [loadVar, Sem.run_bind, isAggD_run hu, Result.andThen_ok, ha, Bool.false_eq_true, if_false, run_load, this]

theorem cell_set {a b : Addr} {v : Value} (h : ∃ o, w.cell? b = some o) : ∃ o, (w.setCell a v).cell? b = some o := by
  obtain ⟨o, h⟩ := h
  by_cases hab : a = b
  · subst hab; exact ⟨v, World.cell?_setCell_same w a v h⟩
  · exact ⟨o, by rw [World.cell?_setCell_other w a b v hab]; exact h⟩

theorem CanSet.tail {a : Addr} {i : Nat} {v : Value} {cs : List Value} (h : CanSet w a i (v :: cs)) : CanSet (w.setCell (a.add i) v) a (i + 1) cs := by
  refine ⟨fun u hu => h.1 u (List.mem_cons_of_mem _ hu), fun j hj => ?_⟩
  have := h.2 (j + 1) (by simp; omega)
  rw [show i + 1 + j = i + (j + 1) from by omega]
  exact ⟨cell_set this.1, by rw [World.frozen?_setCell]; exact this.2⟩

theorem run_setL : ∀ (cs : List Value) (a : Addr) (i : Nat) (w : World), CanSet w a i cs → (storeCells a cs i).run P w = .ok () (setL w a i cs)
  | [], a, i, w, h => rfl
  | v :: cs, a, i, w, h => by
    have h0 := h.2 0 (by simp)
    obtain ⟨⟨o, ho⟩, hf⟩ := h0
    simp only [Nat.add_zero] at ho hf
    simp only [storeCells, Sem.run_bind, run_store P w (a.add i) v .plain (h.1 v (by simp)), ho, hf, setL]
    exact run_setL cs a (i + 1) _ h.tail

theorem storeDen_spec {t : TypeId} {a : Addr} {v : Value} (hh : storeDen P t a v K w) : ∃ w', (storeVar t a v).run P w = .ok () w' ∧ K undef w' := by
  unfold storeDen at hh
  cases hi : P.info? t with
  | none => simp only [hi, no] at hh
  | some i =>
    simp only [hi] at hh
    have one : v.cells.toList = [v] → (bif Nat.beq i.size 1 then st a v (K undef) else no) w → ∃ w', (storeVar t a v).run P w = .ok () w' ∧ K undef w' := by
      intro hv hh
      cases hs : Nat.beq i.size 1 with
      | false => simp [hs, no] at hh
      | true =>
        have hs' : i.size = 1 := Nat.eq_of_beq_eq_true hs
        simp only [hs, cond_true] at hh
        obtain ⟨h1, ⟨o, ho⟩, hf, hk⟩ := hh
        have a0 : a.add 0 = a := by simp [Addr.add]
        refine ⟨_, ?_, hk⟩
        have hsz : v.cells.size = 1 := by rw [← Array.length_toList, hv]; rfl
        simp only [storeVar, Sem.run_bind, run_sizeOf hi, Result.andThen_ok, hs', hsz, ne_eq, not_true, if_false, hv]
        have := run_setL (P := P) [v] a 0 w ⟨fun u hu => by simp at hu; subst hu; exact h1, fun j hj => by simp at hj; subst hj; simp only [Nat.add_zero, a0]; exact ⟨⟨o, ho⟩, hf⟩⟩
        simp only [setL, a0] at this
        exact this
    split at hh
    · rename_i cs
      obtain ⟨hl, hc, hk⟩ := hh
      refine ⟨_, ?_, hk⟩
      have hl' : cs.size = i.size := by simpa using hl
      simp only [storeVar, Sem.run_bind, run_sizeOf hi, Result.andThen_ok, Value.cells, hl', ne_eq, not_true, if_false]
      exact run_setL _ _ _ _ hc
    · rename_i hv
      refine one ?_ hh
      cases v <;> first | rfl | exact absurd rfl (hv _)

end
end Go.Den

/- Soundness: new rows, 'append', conversions, calls. -/
namespace Go.Den
section
variable {P : Program} {K : VK} {w : World}

/-- A value at the end, the world turned. -/
def SV (P : Program) (s : Sem Value) (w : World) (K : VK) : Prop := ∃ v w', s.run P w = .ok v w' ∧ K v w'

theorem SV.to {s : Sem Value} (h : SV P s w K) : To P (do pure (.value (← s))) w K := by
  obtain ⟨v, w', hr, hk⟩ := h
  exact .inl ⟨v, w', by simp [hr], hk⟩

theorem PV.sv {s : Sem Value} (h : PV P s w K) : SV P s w K := let ⟨v, hr, hk⟩ := h; ⟨v, w, hr w, hk⟩

theorem mk_sv {cs : List Value} {t : TypeId} (h : mk cs (fun r => K (ptrAt r)) w) (v : Value) (hv : cellsL v = cs) : SV P (Instr.box t v) w K := by
  refine ⟨_, _, ?_, h t⟩
  have : v.cells = ⟨cs⟩ := by rw [← hv, ← cells_toList]
  simp [Instr.box, newVar, newRow, this, ptrAt]

theorem alloc_sv {t : TypeId} {z : Value} (hz : zeroOf P t = some z) (h : mk (cellsL z) (fun r => K (ptrAt r)) w) : SV P (Instr.alloc t true (.tuple #[])) w K := by
  refine ⟨_, _, ?_, h t⟩
  have : z.cells = ⟨cellsL z⟩ := by rw [← cells_toList]
  simp [Instr.alloc, run_zeroOf hz, newVar, newRow, this, ptrAt]

theorem allocT_sv {t : TypeId} {z : Value} (hz : zeroOf P t = some z) (h : mkT t (cellsL z) (fun r => K (ptrAt r)) w) : SV P (Instr.alloc t true (.tuple #[])) w K := by
  refine ⟨_, _, ?_, h⟩
  have : z.cells = ⟨cellsL z⟩ := by rw [← cells_toList]
  simp [Instr.alloc, run_zeroOf hz, newVar, newRow, this, ptrAt]

theorem run_firstCells {n size len cap : Nat} {b : Option Addr} {cs : List Value} (h : Src w n size b cs) (hb : b = none → n = 0) :
    (Builtin.firstCells size n (.slice b len cap)).run P w = .ok ⟨cs⟩ w := by
  cases b with
  | none =>
    have h0 := hb rfl; subst h0
    have hl := h.1
    simp at hl; subst hl
    exact run_firstCells_none (P := P) w size 0 len cap
  | some a => exact run_firstCells_some (P := P) w size n a len cap cs h.1 (h.2 a rfl)

theorem run_firstCells_str {s : ByteArray} (size : Nat) : (Builtin.firstCells size s.size (.string s)).run P w = .ok ⟨strCells s⟩ w := by
  have e : s.extract 0 s.size = s := by simp
  simp only [Builtin.firstCells, e, Sem.run_pure, strCells]
  congr 1
  apply Array.ext'
  simp

theorem cut_cap {need old : Nat} {el : TypeId} (t : Nat) : need ≤ (Question.appendCap need old el).cut t := by
  simp only [Question.cut]; omega

/-- 'append' of cells that are known. -/
theorem appC_run {size bytes : Nat} {z : Value} {b : Option Addr} {len cap n : Nat} {new : List Value} {K : Option Addr → Nat → Nat → WK} {t u ty e : TypeId} {i : TypeInfo} {du : TypeDesc} {x : Value}
    (h : appC size bytes (cellsL z) b len cap n new K w) (ht : P.underlying t = some (.slice e)) (hu : P.underlying u = some du) (hdu : ∀ k, du ≠ .int k) (hi : P.info? e = some i) (hs : i.size = size) (hby : i.bytes = bytes) (hz : i.zero = some z)
    (hlen : (Builtin.lenOf x).run P w = .ok n w) (hfirst : ∀ w', (∀ a, w'.cell? a = w.cell? a) → (Builtin.firstCells size n x).run P w' = .ok ⟨new⟩ w') :
    ∃ b' n' c' w', (Builtin.append_ #[t, u] ty #[.slice b len cap, x]).run P w = .ok (.slice b' n' c') w' ∧ K b' n' c' w' := by
  subst hs hby
  have hz' : z.cells = ⟨cellsL z⟩ := by rw [← cells_toList]
  have hnz : (match du with | .int _ => true | _ => false) = false := by cases du <;> first | rfl | exact absurd rfl (hdu _)
  by_cases hle : len + n ≤ cap
  · obtain ⟨h1, h2⟩ := h.1 hle
    cases b with
    | none =>
      refine ⟨_, _, _, _, ?_, h2 rfl⟩
      simp only [Builtin.append_, List.getElem?_toArray, List.getElem?_cons_zero, List.getElem?_cons_succ, Sem.run_bind, run_und ht, run_und hu, run_sizeOf hi, Result.andThen_ok, Sem.run_pure, Bool.false_eq_true, if_false, hlen, Bool.not_false, if_true, hle, hfirst w (fun _ => rfl)]
    | some a =>
      obtain ⟨hc, hk⟩ := h1 a rfl
      refine ⟨_, _, _, _, ?_, hk⟩
      simp only [Builtin.append_, List.getElem?_toArray, List.getElem?_cons_zero, List.getElem?_cons_succ, Sem.run_bind, run_und ht, run_und hu, run_sizeOf hi, Result.andThen_ok, Sem.run_pure, Bool.false_eq_true, if_false, hlen, Bool.not_false, if_true, hle, hfirst w (fun _ => rfl), run_setL _ _ _ _ hc]
  · have hlt : cap < len + n := by omega
    obtain ⟨hb1, hb2, old, hsrc, hn, hk⟩ := h.2 hlt
    have hfit := growslice_fits (old := cap) (bytes := i.bytes) hlt hb1
    have hm : ¬ (((len + n : Nat) : Int) > IntKind.i64.max ∧ (False ∨ i.bytes = 0)) := by
      have e : IntKind.i64.max = 9223372036854775807 := by decide
      rw [e]; omega
    refine ⟨_, _, _, _, ?_, hk _ e (cut_cap (old := cap) (el := e) (w.tape w.drawn (.appendCap (len + n) cap e)))⟩
    have hf1 : ∀ (l c : Nat), (Builtin.firstCells i.size len (.slice b l c)).run P w.drew = .ok ⟨old⟩ w.drew := fun l c =>
      run_firstCells (w := w.drew) ⟨hsrc.1, fun a ha => hsrc.2 a ha⟩ hn
    have hf2 := hfirst w.drew (fun _ => rfl)
    have h48 : ¬ (Builtin.nextslicecap (len + n) cap * i.bytes > 2 ^ 48) := by omega
    simp only [Builtin.append_, List.getElem?_toArray, List.getElem?_cons_zero, List.getElem?_cons_succ, Sem.run_bind, run_und ht, run_und hu, run_sizeOf hi, Result.andThen_ok, Sem.run_pure, Bool.false_eq_true, if_false, hlen, Bool.not_false, if_true, hle,
      typeInfo, run_program, hi, h48, hm, zeroValue, hz, run_choose, Question.forced, run_askRoom, World.drew_eq, hf1, hf2, newRow, run_newObj, World.alloc_eq, hz', Sem.run_ite, run_mark]
    have e2 : (⟨old⟩ ++ ⟨new⟩ : Array Value) = (old ++ new).toArray := by simp
    rw [e2]; rfl

theorem appDen_sv {t u ty : TypeId} {s x : Value} (hh : appDen P t u s x K w) : SV P (Builtin.append_ #[t, u] ty #[s, x]) w K := by
  unfold appDen at hh
  generalize ht : P.underlying t = dt at hh
  split at hh
  case h_2 => exact hh.elim
  rename_i e b n c
  cases hi : P.info? e with
  | none => simp only [hi, no] at hh
  | some i =>
    simp only [hi] at hh
    cases hz : i.zero with
    | none => simp only [hz, no] at hh
    | some z =>
      simp only [hz] at hh
      generalize hu : P.underlying u = du at hh
      split at hh
      · rename_i e' b' m c'
        obtain ⟨new, hsrc, hn, happ⟩ := hh
        obtain ⟨b1, n1, c1, w1, hr, hk⟩ := appC_run (P := P) (ty := ty) (x := .slice b' m c') happ ht hu (fun k => by simp) hi rfl rfl hz rfl (fun w' hw' => run_firstCells (w := w') ⟨hsrc.1, fun a ha j v hj => by rw [hw']; exact hsrc.2 a ha j v hj⟩ hn)
        exact ⟨_, _, hr, hk⟩
      · rename_i y
        cases hs : (Nat.beq i.size 1 && Nat.beq i.bytes 1) with
        | false => simp only [hs, cond_false, no] at hh
        | true =>
          simp only [hs, cond_true] at hh
          simp only [Bool.and_eq_true] at hs
          have h1 := Nat.eq_of_beq_eq_true hs.1
          have h2 := Nat.eq_of_beq_eq_true hs.2
          split at hh
          · obtain ⟨b1, n1, c1, w1, hr, hk⟩ := appC_run (P := P) (ty := ty) (x := .string y) (z := .int .u8 0) hh ht hu (fun k => by simp) hi h1 h2 hz rfl (fun w' _ => run_firstCells_str (w := w') i.size)
            exact ⟨_, _, hr, hk⟩
          · exact hh.elim
      · exact hh.elim

theorem b2s_sv {p : Option Addr} {n c : Nat} {K : ByteArray → WK} (h : b2s p n K w) : ∃ s, (Conv.bytesToString (.slice p n c)).run P w = .ok (.string s) w ∧ K s w := by
  cases p with
  | none => exact ⟨_, rfl, h.1 rfl⟩
  | some a =>
    obtain ⟨cs, hl, hH, hb, hk⟩ := h.2 a rfl
    refine ⟨_, ?_, hk⟩
    subst hl
    have key : ∀ (l : List Value), (∀ v ∈ l, ∃ m, v = .int .u8 m) → ∃ ns : List Int, l = ns.map (.int .u8) ∧ bytesOf l = ns.map fun n => UInt8.ofNat n.toNat := by
      intro l
      induction l with
      | nil => intro _; exact ⟨[], rfl, rfl⟩
      | cons v l ih =>
        intro hv
        obtain ⟨m, rfl⟩ := hv v (by simp)
        obtain ⟨ns, h1, h2⟩ := ih fun v hv' => hv v (by simp [hv'])
        exact ⟨m :: ns, by rw [h1]; rfl, by simp only [List.map_cons, ← h2]; rfl⟩
    have fold : ∀ (ns : List Int) (s : ByteArray), ns.foldl (fun r n => r.push (UInt8.ofNat n.toNat)) s = ⟨s.data ++ (ns.map fun n => UInt8.ofNat n.toNat).toArray⟩ := by
      intro ns
      induction ns with
      | nil => intro s; simp
      | cons n ns ih =>
        intro s
        rw [List.foldl_cons, ih]
        congr 1
        apply Array.ext'
        simp [ByteArray.push]
    obtain ⟨ns, h1, h2⟩ := key cs hb
    have hrun := run_loadCells_list (P := P) w a cs hH
    have := run_bytesToString (P := P) w a cs.length c ns (by rw [hrun, h1])
    rw [this, fold, h2]
    simp [ByteArray.empty, ByteArray.emptyWithCapacity]
    rfl

theorem s2b_sv {e : TypeId} {s : ByteArray} {K : Nat → Nat → WK} (h : s2b s K w) : ∃ r c w', (Conv.stringToBytes e s).run P w = .ok (.slice (some ⟨r, 0, none⟩) s.size c) w' ∧ K r c w' := by
  refine ⟨_, _, _, ?_, h _ e (cut_cap (old := 0) (el := e) (w.tape w.drawn (.appendCap s.size 0 e)))⟩
  have hch : (choose (.appendCap s.size 0 e)).run P w = .ok ((Question.appendCap s.size 0 e).cut (w.tape w.drawn (.appendCap s.size 0 e))) w.drew := rfl
  simp only [Conv.stringToBytes, Sem.run_bind, hch, Result.andThen_ok, newRow, run_newObj, World.alloc_eq, Sem.run_pure, markStringish, run_shape]
  have e1 : (s.data.map fun b => Value.int .u8 b.toNat) = (strCells s).toArray := by
    apply Array.ext'; simp [strCells]
  rw [e1]
  generalize hc : (Question.appendCap s.size 0 e).cut (w.tape w.drawn (Question.appendCap s.size 0 e)) = c
  have hle : s.size ≤ c := by rw [← hc]; exact cut_cap (old := 0) (el := e) _
  have hsz : ((strCells s).toArray ++ Array.replicate (c - s.size) (Value.int .u8 0)).size = c := by
    have : s.data.size = s.size := rfl
    simp [strCells]; omega
  have hsh : (w.drew.alloc (.cells ((strCells s).toArray ++ Array.replicate (c - s.size) (.int .u8 0)) e)).shape? w.drew.heap.size = some (e, c) := by
    simp only [World.shape?, World.alloc, Array.getElem?_push_size, hsz]
  rw [hsh]
  rfl

theorem zeroCells_made (z : Array Value) (n : Nat) : madeCells z (n * z.size) = Builtin.zeroCells z n := rfl

theorem mkSl_sv {t e : TypeId} {i : TypeInfo} {z : Value} {kl kc : IntKind} {l c : Int} (ht : P.underlying t = some (.slice e)) (hi : P.info? e = some i) (hz : i.zero = some z) (hs : (cellsL z).length = i.size)
    (h : mkSl i.bytes (cellsL z) l c (fun b n c => K (.slice b n c)) w) : SV P (Instr.makeSlice t (.int kl l) (.int kc c)) w K := by
  obtain ⟨⟨h0, h1, h2, h3⟩, hk⟩ := h
  refine ⟨_, _, ?_, hk e⟩
  rw [run_make w t e i z ht hi hz kl kc l c h0 h1 (by rw [Int.mul_comm]; exact h3) h2]
  have hsz : z.cells.size = i.size := by rw [← hs, ← cells_toList]; simp
  rw [← hsz, zeroCells_made]
  have : z.cells = ⟨cellsL z⟩ := by rw [← cells_toList]
  rw [this]

end
end Go.Den

/- Soundness: every operation. -/
namespace Go.Den
section
variable {P : Program} {K : VK} {w : World} {T : Tab} {n : Nat} {e : Env} {a : Act}

/-- A function of the program answers as its transformer says. -/
def Entry (P : Program) (g : Nat) (p : WP) : Prop :=
  (∃ fn, P.funcs[g]? = some fn ∧ (fn.name == "runtime.NumGoroutine") = false ∧ fn.body.isNone = false) ∧
  ∀ args K w, p args K w → Calls P g ⟨args⟩ w fun e w' => ∃ v, e = .returned v ∧ K v w'

def TabOk (P : Program) : Tab → Prop
  | [] => True
  | (g, p) :: r => Entry P g p ∧ TabOk P r

theorem callT_ok : ∀ {T : Tab}, TabOk P T → ∀ {g : Nat} {args : List Value} {K : VK} {w : World}, callT T g args K w →
    (∃ fn, P.funcs[g]? = some fn ∧ (fn.name == "runtime.NumGoroutine") = false ∧ fn.body.isNone = false) ∧ Calls P g ⟨args⟩ w fun e w' => ∃ v, e = .returned v ∧ K v w'
  | [], _, _, _, _, _, h => h.elim
  | (f, p) :: r, hT, g, args, K, w, h => by
    simp only [callT] at h
    cases hb : Nat.beq f g with
    | true =>
      have := Nat.eq_of_beq_eq_true hb
      subst this
      simp only [hb, cond_true] at h
      exact ⟨hT.1.1, hT.1.2 _ _ _ h⟩
    | false =>
      simp only [hb, cond_false] at h
      exact callT_ok hT.2 h

theorem run_callFunc {g : Nat} {args : Array Value} {fn : Func} (h : P.funcs[g]? = some fn) (h1 : (fn.name == "runtime.NumGoroutine") = false) (h2 : fn.body.isNone = false) (w : World) :
    (callFunc g args).run P w = .ok (.enter g args) w := by
  simp only [callFunc, Sem.run_bind, run_program, Result.andThen_ok, h, h1, h2, Bool.false_eq_true, if_false, Sem.run_pure]

theorem callDen_to (hT : TabOk P T) (hs : Sub n e a) {c : Call} {ty : TypeId} (h : callDen P T e c ty K w) : To P (do let d ← resolve a.eval c ty; invoke d.target d.args) w K := by
  obtain ⟨callee, args, ats⟩ := c
  unfold callDen at h
  cases hargs : evs e args.toList with
  | none => simp only [hargs, no] at h
  | some vs =>
    simp only [hargs] at h
    have hmap := hs.evalsA hargs
    cases callee with
    | invoke r m => simp only [no] at h
    | value f =>
      cases hf : ev e f with
      | none => simp only [hf, no] at h
      | some fv =>
        have hfe := hs.eval hf
        cases fv <;> simp only [hf, no] at h
        rename_i fnv first cap
        cases fnv <;> simp only [no] at h
        rename_i g
        cases hz : zeroOf P ty with
        | none => simp only [hz, no] at h
        | some z =>
          simp only [hz] at h
          obtain ⟨⟨fn, h1, h2, h3⟩, hc⟩ := callT_ok hT h
          refine .inr (.inr ⟨g, ⟨first.toList ++ vs ++ cap.toList⟩, w, ?_, hc.mono fun e w' ⟨v, he, hk⟩ => ⟨v, he, xT_out hk⟩⟩)
          simp only [resolve, hfe, hmap, Deferred.ofValue, invoke, Sem.run_bind, Sem.run_pure, Result.andThen_ok]
          rw [run_callFunc h1 h2 h3]
          congr 2
          apply Array.ext'
          simp
    | builtin b =>
      simp only at h
      have base : ∀ s : Sem Value, (∀ cs, builtin b ats ty cs ⟨vs⟩ = (do pure (.value (← s)))) → SV P s w K → To P (do let d ← resolve a.eval ⟨.builtin b, args, ats⟩ ty; invoke d.target d.args) w K := by
        intro s hbs hsv
        have := SV.to hsv
        have e1 : (do let d ← resolve a.eval ⟨.builtin b, args, ats⟩ ty; invoke d.target d.args : Sem Next) = (do pure (.value (← s))) := by
          rw [← hbs (args.map fun | .const _ => true | _ => false)]
          simp only [resolve, hmap, invoke]
          rfl
        rw [e1]; exact this
      unfold builtinDen at h
      generalize hts : ats.toList = ts at h
      split at h
      · rename_i t r x
        refine base (Builtin.len_ ats ty #[x]) (fun cs => rfl) (PV.sv (lenDen_pv (t := t) (.inr ⟨r, hts⟩) h))
      · rename_i k x r
        cases hm : minsD x r with
        | none => simp only [hm, no] at h
        | some m =>
          simp only [hm] at h
          exact base (Builtin.min_ ats ty ⟨.int k x :: r⟩) (fun cs => rfl) ⟨_, w, minsD_run hm w, h⟩
      · rename_i k x r
        cases hm : maxsD x r with
        | none => simp only [hm, no] at h
        | some m =>
          simp only [hm] at h
          exact base (Builtin.max_ ats ty ⟨.int k x :: r⟩) (fun cs => rfl) ⟨_, w, maxsD_run hm w, h⟩
      · rename_i t u s x
        have hats : ats = #[t, u] := by cases ats; simp only at hts; subst hts; rfl
        subst hats
        exact base (Builtin.append_ #[t, u] ty #[s, x]) (fun cs => rfl) (appDen_sv h)
      · exact h.elim

theorem convDen_sv {s d : TypeId} {x : Value} (h : convDen P s d x K w) : SV P (convert s d x) w K := by
  unfold convDen at h
  cases hs : P.underlying s with
  | none => simp only [hs, no] at h
  | some sd =>
    simp only [hs] at h
    generalize hd : P.underlying d = dd at h
    split at h
    · exact ⟨_, _, run_convert_int hs hd _ _ w, h⟩
    · exact ⟨_, _, by cases sd <;> simp [convert, run_und hs, run_und hd], h⟩
    · rename_i el b
      generalize he : P.underlying el = ed at h
      split at h
      · obtain ⟨r, c, w', hr, hk⟩ := s2b_sv (P := P) (e := el) h
        refine ⟨_, w', ?_, hk⟩
        cases sd <;> simp [convert, run_und hs, run_und hd, run_und he, hr]
      · exact h.elim
    · rename_i p m c
      cases sd <;> simp only [no] at h
      rename_i el
      generalize he : P.underlying el = ed at h
      split at h
      · obtain ⟨r, hr, hk⟩ := b2s_sv (P := P) (c := c) h
        refine ⟨_, w, ?_, hk⟩
        simp [convert, run_und hs, run_und hd, run_und he, hr]
      · exact h.elim
    · exact h.elim

theorem buildSlDen_sv {t : TypeId} {m : Nat} {ps : List (Nat × Value)} (hh : buildSlDen P t m ps K w) : SV P (Instr.buildSlice t m ⟨ps⟩) w K := by
  unfold buildSlDen at hh
  cases hu : P.underlying t with
  | none => simp only [hu, no] at hh
  | some d =>
    cases d <;> simp only [hu, no] at hh
    rename_i el
    cases hi : P.info? el with
    | none => simp only [hi, no] at hh
    | some i =>
      simp only [hi] at hh
      cases hz : i.zero with
      | none => simp only [hz, no] at hh
      | some z =>
        simp only [hz] at hh
        cases hb : (Nat.ble (m * i.size) 16777216 && Nat.blt 0 i.size && Nat.beq (cellsL z).length i.size) with
        | false => simp only [hb, cond_false, no] at hh
        | true =>
          simp only [hb, cond_true] at hh
          simp only [Bool.and_eq_true] at hb
          obtain ⟨⟨hb1, hb2⟩, hb3⟩ := hb
          have h1 : m * i.size ≤ 16777216 := Nat.le_of_ble_eq_true hb1
          have h3 := Nat.eq_of_beq_eq_true hb3
          cases hc : catF (Builtin.zeroCells ⟨cellsL z⟩ m).toList ((List.range m).map fun j => (j * i.size, i.size)) 0 0 (ps.map fun p => (p.1, cellsL p.2)) with
          | none => simp only [hc, no] at hh
          | some y =>
            obtain ⟨cs, p⟩ := y
            simp only [hc] at hh
            obtain ⟨hpp, hk⟩ := hh
            have hf := catF_fill ((List.range m).map fun j => (j * i.size, i.size)) (fun j => some (j * i.size, i.size)) (fun j x hx => by
              rw [List.getElem?_map] at hx
              cases hr : (List.range m)[j]? with
              | none => simp [hr] at hx
              | some q =>
                have : q = j := by
                  rw [List.getElem?_range] at hr
                  · exact (Option.some.inj hr).symm
                  · have := (List.getElem?_eq_some_iff.1 hr).1; simpa using this
                subst this; simpa [hr] using hx) _ _ 0 0 [] ps cs p rfl rfl (Nat.zero_le _) hc hpp
            simp only [List.nil_append, List.drop_zero] at hf
            have hsz : z.cells = ⟨cellsL z⟩ := by rw [← cells_toList]
            have hzz : (⟨cellsL z⟩ : Array Value).size = i.size := h3
            have hrow : ((Array.range (m * i.size)).map fun x => (⟨cellsL z⟩ : Array Value)[x % (⟨cellsL z⟩ : Array Value).size]!) = Builtin.zeroCells ⟨cellsL z⟩ m := by
              rw [← hzz]; rfl
            refine ⟨_, _, ?_, hk el⟩
            simp only [Instr.buildSlice, Sem.run_bind, run_und hu, Result.andThen_ok, run_sizeOf hi]
            have hn : ¬ (m * i.size > 2 ^ 24) := by omega
            simp only [hn, if_false]
            by_cases h0 : m * i.size = 0
            · have hm : m = 0 := by
                rcases Nat.mul_eq_zero.1 h0 with h | h
                · exact h
                · rw [h] at hb2; simp at hb2
              subst hm
              have hzc : Builtin.zeroCells ⟨cellsL z⟩ 0 = #[] := by simp [Builtin.zeroCells]
              rw [hzc] at hf
              have hr0 : ∀ f : Nat → Value, (Array.range (0 * i.size)).map f = #[] := fun f => by rw [Nat.zero_mul]; simp
              simp only [h0, if_true]
              simp only [Nat.zero_mul] at hr0
              rw [show ∀ z : Array Value, (⟨z.toList⟩ : Array Value) = z from fun z => rfl] at hf
              simp only [Sem.run_bind, Sem.run_pure, Result.andThen_ok, hr0]
              rw [hf]
              rfl
            · simp only [h0, if_false, Sem.run_bind, zeroValue, typeInfo, run_program, hi, hz, Result.andThen_ok, Sem.run_pure, hsz, hrow]
              rw [show ∀ z : Array Value, (⟨z.toList⟩ : Array Value) = z from fun z => rfl] at hf
              rw [hf]
              rfl

end
end Go.Den

/- Soundness: operations, under their guards, in the order of the text. -/
namespace Go.Den
section
variable {P : Program} {K : VK} {w : World} {T : Tab} {E : Eqs} {n : Nat} {e : Env} {a : Act}

theorem Pure.of_eq {s : Sem Next} (v : Value) (h : s = pure (.value v)) (hk : K v w) : Pure P s w K := ⟨v, fun w' => by rw [h]; rfl, hk⟩

theorem callDen_pure (hs : Sub n e a) {c : Call} {ty : TypeId} (hc : cls P (.call c) = 0) (h : callDen P T e c ty K w) : Pure P (do let d ← resolve a.eval c ty; invoke d.target d.args) w K := by
  obtain ⟨callee, args, ats⟩ := c
  unfold callDen at h
  cases hargs : evs e args.toList with
  | none => simp only [hargs, no] at h
  | some vs =>
    simp only [hargs] at h
    have hmap := hs.evalsA hargs
    cases callee with
    | invoke r m => simp only [no] at h
    | value f => simp [cls] at hc
    | builtin b =>
      simp only at h
      have base : ∀ s : Sem Value, (∀ cs, builtin b ats ty cs ⟨vs⟩ = (do pure (.value (← s)))) → PV P s w K → Pure P (do let d ← resolve a.eval ⟨.builtin b, args, ats⟩ ty; invoke d.target d.args) w K := by
        intro s hbs hsv
        have := PV.pure hsv
        have e1 : (do let d ← resolve a.eval ⟨.builtin b, args, ats⟩ ty; invoke d.target d.args : Sem Next) = (do pure (.value (← s))) := by
          rw [← hbs (args.map fun | .const _ => true | _ => false)]
          simp only [resolve, hmap, invoke]
          rfl
        rw [e1]; exact this
      unfold builtinDen at h
      generalize hts : ats.toList = ts at h
      split at h
      · rename_i t r x
        exact base (Builtin.len_ ats ty #[x]) (fun cs => rfl) (lenDen_pv (t := t) (.inr ⟨r, hts⟩) h)
      · rename_i k x r
        cases hm : minsD x r with
        | none => simp only [hm, no] at h
        | some m =>
          simp only [hm] at h
          exact base (Builtin.min_ ats ty ⟨.int k x :: r⟩) (fun cs => rfl) ⟨_, minsD_run hm, h⟩
      · rename_i k x r
        cases hm : maxsD x r with
        | none => simp only [hm, no] at h
        | some m =>
          simp only [hm] at h
          exact base (Builtin.max_ ats ty ⟨.int k x :: r⟩) (fun cs => rfl) ⟨_, maxsD_run hm, h⟩
      · simp [cls] at hc
      · exact h.elim

theorem opDen_pure (hE : EqsOk P E) (hs : Sub n e a) {o : Oper} (hc : cls P o.op = 0) (h : opDen P T E e o.op o.type K w) : Pure P (execOp a.eval o) w K := by
  obtain ⟨dst, op, ty, pos, after, guard⟩ := o
  simp only at hc h
  cases op <;> simp [cls] at hc <;> simp only [opDen] at h
  case move x =>
    cases hx : ev e x with
    | none => simp only [hx, no] at h
    | some v => simp only [hx] at h; exact .of_eq v (by simp only [execOp, hs.eval hx]) h
  case assign x =>
    cases hx : ev e x with
    | none => simp only [hx, no] at h
    | some v => simp only [hx] at h; exact .of_eq v (by simp only [execOp, hs.eval hx]) h
  case pick c x y =>
    cases hx : ev e c with
    | none => simp only [hx, no] at h
    | some v =>
      cases v <;> simp only [hx, no] at h
      rename_i b
      cases b with
      | true =>
        simp only [br] at h
        cases hy : ev e x with
        | none => simp only [hy, no] at h
        | some u => simp only [hy] at h; exact .of_eq u (by simp only [execOp, hs.eval hx, hs.eval hy, asBool, pure_bind, if_true]) h
      | false =>
        simp only [br] at h
        cases hy : ev e y with
        | none => simp only [hy, no] at h
        | some u => simp only [hy] at h; exact .of_eq u (by simp only [execOp, hs.eval hx, hs.eval hy, asBool, pure_bind, Bool.false_eq_true, if_false]) h
  case nilCheck x =>
    cases hx : ev e x with
    | none => simp only [hx, no] at h
    | some v =>
      cases v <;> simp only [hx, no] at h
      rename_i p
      cases p with
      | none => exact h.elim
      | some p => simp only [nn] at h; exact .of_eq _ (by simp only [execOp, hs.eval hx]) h
  case binOp op t x y u =>
    cases hx : ev e x with
    | none => simp only [hx, no] at h
    | some v =>
      cases hy : ev e y with
      | none => simp only [hx, hy, no] at h
      | some u =>
        simp only [hx, hy] at h
        simp only [execOp, hs.eval hx, hs.eval hy]
        exact PV.pure (binDen_pv hE h)
  case unOp op t x =>
    cases hx : ev e x with
    | none => simp only [hx, no] at h
    | some v =>
      simp only [hx] at h
      simp only [execOp, hs.eval hx]
      exact PV.pure (unDen_pv h)
  case makeFunc fn first cap =>
    cases hx : evs e first.toList with
    | none => simp only [hx, no] at h
    | some f =>
      cases hy : evs e cap.toList with
      | none => simp only [hx, hy, no] at h
      | some c =>
        simp only [hx, hy] at h
        simp only [execOp, hs.evalsA hx, hs.evalsA hy]
        exact PV.pure ⟨_, fun w' => rfl, h⟩
  case slice t x lo hi mx =>
    cases mx with
    | some _ => simp only [no] at h
    | none =>
      simp only at h
      cases hx : ev e x with
      | none => simp only [hx, no] at h
      | some v =>
        cases hl : evI e lo with
        | none => simp only [hx, hl, no] at h
        | some l =>
          cases hh : evI e hi with
          | none => simp only [hx, hl, hh, no] at h
          | some u =>
            simp only [hx, hl, hh] at h
            simp only [execOp, hs.eval hx]
            exact PV.pure (sliceDen_pv (hs.evI hl) (hs.evI hh) h)
  case fieldAddr t x f =>
    cases hx : ev e x with
    | none => simp only [hx, no] at h
    | some v =>
      simp only [hx] at h
      simp only [execOp, hs.eval hx]
      exact PV.pure (fieldAddrDen_pv h)
  case field t x f =>
    cases hx : ev e x with
    | none => simp only [hx, no] at h
    | some v =>
      simp only [hx] at h
      simp only [execOp, hs.eval hx]
      exact PV.pure (fieldDen_pv h)
  case indexAddr t x i =>
    cases hx : ev e x with
    | none => simp only [hx, no] at h
    | some v =>
      cases hy : ev e i with
      | none => simp only [hx, hy, no] at h
      | some j =>
        simp only [hx, hy] at h
        simp only [execOp, hs.eval hx, hs.eval hy]
        exact PV.pure (indexAddrDen_pv h)
  case index t x i =>
    cases hx : ev e x with
    | none => simp only [hx, no] at h
    | some v =>
      cases hy : ev e i with
      | none => simp only [hx, hy, no] at h
      | some j =>
        simp only [hx, hy] at h
        simp only [execOp, hs.eval hx, hs.eval hy]
        exact PV.pure (indexDen_pv h)
  case extract x i =>
    cases hx : ev e x with
    | none => simp only [hx, no] at h
    | some v =>
      cases v <;> simp only [hx, no] at h
      rename_i vs
      cases hv : vs[i]? with
      | none => simp only [hv, no] at h
      | some u =>
        simp only [hv] at h
        simp only [execOp, hs.eval hx]
        exact PV.pure ⟨u, fun w' => by simp [Instr.extract, hv], h⟩
  case build t ps =>
    cases hx : evPs e ps.toList with
    | none => simp only [hx, no] at h
    | some l =>
      simp only [hx] at h
      have hm : (ps.map fun (i, x) => (i, a.eval x)) = ⟨l⟩ := by
        have := hs.evalPs hx
        apply Array.ext'
        rw [Array.toList_map]
        exact this
      simp only [execOp, hm]
      exact PV.pure (buildDen_pv h)
  case convert s d x =>
    cases hx : ev e x with
    | none => simp only [hx, no] at h
    | some v =>
      simp only [hx] at h
      simp only [execOp, hs.eval hx]
      cases hd : P.underlying d with
      | none => simp [hd] at hc
      | some dd =>
        cases dd <;> simp [hd] at hc
        unfold convDen at h
        cases hsd : P.underlying s with
        | none => simp only [hsd, no] at h
        | some sd =>
          simp only [hsd, hd] at h
          cases v <;> simp only [no] at h
          exact PV.pure ⟨_, fun w' => run_convert_int hsd hd _ _ w', h⟩
  case call c =>
    simp only [execOp]
    exact callDen_pure hs (by simp only [cls]; exact hc) h

theorem opDen_to (hE : EqsOk P E) (hT : TabOk P T) (hs : Sub n e a) {o : Oper} (h : opDen P T E e o.op o.type K w) : To P (execOp a.eval o) w K := by
  by_cases hc : cls P o.op = 0
  · exact (opDen_pure hE hs hc h).to
  obtain ⟨dst, op, ty, pos, after, guard⟩ := o
  simp only at hc h
  cases op <;> simp [cls] at hc <;> simp only [opDen, no] at h
  case alloc t =>
    cases hz : zeroOf P t with
    | none => simp only [hz, no] at h
    | some z =>
      simp only [hz] at h
      cases hsf : selfFirst P t with
      | true => rw [hsf] at h; exact SV.to (allocT_sv hz h)
      | false => rw [hsf] at h; exact SV.to (alloc_sv hz h)
  case box t x =>
    cases hx : ev e x with
    | none => simp only [hx, no] at h
    | some v =>
      simp only [hx] at h
      simp only [execOp, hs.eval hx]
      exact SV.to (mk_sv h v rfl)
  case buildSlice t m ps =>
    cases hx : evPs e ps.toList with
    | none => simp only [hx, no] at h
    | some l =>
      simp only [hx] at h
      have hm : (ps.map fun (i, x) => (i, a.eval x)) = ⟨l⟩ := by
        have := hs.evalPs hx
        apply Array.ext'
        rw [Array.toList_map]
        exact this
      simp only [execOp, hm]
      exact SV.to (buildSlDen_sv h)
  case load t x =>
    cases hx : ev e x with
    | none => simp only [hx, no] at h
    | some v =>
      cases v <;> simp only [hx, no] at h
      rename_i p
      cases p with
      | none => exact h.elim
      | some p =>
        simp only at h
        simp only [execOp, hs.eval hx]
        obtain ⟨v, cs, hH, hr, hk⟩ := loadDen_spec h
        exact SV.to ⟨v, w, by simp [Instr.loadAt, Instr.sureAddr, hr w hH], hk⟩
  case store t x y =>
    cases hx : ev e x with
    | none => simp only [hx, no] at h
    | some v =>
      cases hy : ev e y with
      | none => cases v <;> simp only [hx, hy, no] at h
      | some u =>
        cases v <;> simp only [hx, hy, no] at h
        rename_i p
        cases p with
        | none => exact h.elim
        | some p =>
          simp only at h
          simp only [execOp, hs.eval hx, hs.eval hy]
          obtain ⟨w', hr, hk⟩ := storeDen_spec h
          exact .inr (.inl ⟨w', by simp [Instr.storeAt, Instr.sureAddr, hr], hk⟩)
  case convert s d x =>
    cases hx : ev e x with
    | none => simp only [hx, no] at h
    | some v =>
      simp only [hx] at h
      simp only [execOp, hs.eval hx]
      exact SV.to (convDen_sv h)
  case makeSlice t m c =>
    cases hu : P.underlying t with
    | none => simp only [hu, no] at h
    | some d =>
      cases hx : ev e m with
      | none => cases d <;> simp only [hu, hx, no] at h
      | some mv =>
        cases hy : ev e c with
        | none => cases d <;> simp only [hu, hx, hy, no] at h
        | some cv =>
          cases d <;> simp only [hu, hx, hy, no] at h
          cases mv <;> (try simp only [no] at h)
          cases cv <;> simp only [no] at h
          rename_i el k1 mi k2 ci
          cases hi : P.info? el with
          | none => simp only [hi, no] at h
          | some i =>
            simp only [hi] at h
            cases hz : i.zero with
            | none => simp only [hz, no] at h
            | some z =>
              simp only [hz] at h
              cases hb : (Nat.blt 0 i.size && Nat.beq (cellsL z).length i.size) with
              | false => simp only [hb, cond_false, no] at h
              | true =>
                simp only [hb, cond_true] at h
                simp only [Bool.and_eq_true] at hb
                simp only [execOp, hs.eval hx, hs.eval hy]
                exact SV.to (mkSl_sv hu hi hz (Nat.eq_of_beq_eq_true hb.2) h)
  case call c =>
    simp only [execOp]
    exact callDen_to hT hs h

end
end Go.Den

/- Soundness: guards, regions, code, calls. -/
namespace Go.Den

/-- The environment, and the constants, are the frame's. -/
def S2 (F : Fn) (e : Env) (a : Act) : Prop := Sub F.n e a ∧ Sub F.n F.C a

/-- What the machine's post says of a partial environment. -/
def QS (F : Fn) (Q : Exit → Env → WK) : Exit → Act → World → Prop := fun ex a w => (∃ e, S2 F e a ∧ Q ex e w) ∧ ∀ c, ex ≠ .panic c

structure Ok (F : Fn) : Prop where
  tab : TabOk F.P F.T
  eqs : EqsOk F.P F.E
  mixed : F.P.follows .mixedOrders = true

section
variable {F : Fn} {P : Program} {w : World} {e : Env} {a : Act} {ops : Array Oper}

theorem QS_panic {Q : Exit → Env → WK} {c : List PanicEntry} {a : Act} {w : World} : ¬ QS F Q (.panic c) a w := fun h => h.2 c rfl

theorem pt_sound {d : Option Tmp} {v : Value} {K : Env → WK} (hs : S2 F e a) (h : pt F.n F.C e d v K w) : ∃ e', S2 F e' (a.put d v) ∧ K e' w := by
  cases d with
  | none => exact ⟨e, hs, h⟩
  | some d =>
    simp only [pt] at h
    cases hb : (Nat.blt d F.n && cover F.C d) with
    | false => simp only [hb, cond_false, no] at h
    | true =>
      simp only [hb, cond_true] at h
      simp only [Bool.and_eq_true] at hb
      have hput := hs.1.put (by have := hb.1; rwa [Nat.blt_eq] at this) v
      refine ⟨_, ⟨hput, hput.size, hput.defers, fun t u ht => ?_⟩, h⟩
      have hne : d ≠ t := fun hd => by
        subst hd
        have := hb.2
        simp only [cover, ht, Bool.false_eq_true] at this
      simp only [Act.put]
      rw [Array.getElem?_setIfInBounds_ne hne]
      exact hs.2.get t u ht

/-- From what an operation comes to, to the machine's rule for it. -/
theorem wp_of_to {o : Oper} {K : VK} {next : Act → World → Prop} {Q : Exit → Act → World → Prop} (h : To P (execOp a.eval o) w K) (hk : ∀ v w', K v w' → next (a.put o.dst v) w') : o.wp P a w next Q := by
  unfold Oper.wp
  rcases h with ⟨v, w', hr, h⟩ | ⟨w', hr, h⟩ | ⟨g, args, w', hr, h⟩
  · rw [hr]; exact hk _ _ h
  · rw [hr]; exact hk _ _ h
  · rw [hr]
    refine Calls.mono h fun e w'' ⟨v, he, hv⟩ => ?_
    subst he
    exact hk _ _ hv

theorem gd_yield {j : Nat} {d : Tmp} {b : Bool} (hd : gdst ops j = some d) (h : lk e d = some (.bool b)) {n : Nat} (hs : Sub n e a) : yielded ops a.tmps j = some b := by
  unfold gdst at hd
  unfold yielded
  cases ho : ops[j]? with
  | none => simp [ho] at hd
  | some o =>
    simp only [ho] at hd
    simp only [Option.bind_some, hd, hs.get _ _ h]

theorem beqB_spec (a b : Bool) : beqB a b = (a == b) := by cases a <;> cases b <;> rfl

/-- A guard, and what is done under it. -/
theorem guarded_sound {o : Oper} {run skip : Env → WK} {X : Prop} (hs : S2 F e a) (h : guarded ops o e run skip w)
    (hr : ∀ e', S2 F e' a → Region.wanted o (yielded ops a.tmps) = true → run e' w → X)
    (hk : ∀ e', S2 F e' a → Region.wanted o (yielded ops a.tmps) = false → skip e' w → X) : X := by
  unfold guarded at h
  cases hg : o.guard with
  | none =>
    simp only [hg] at h
    exact hr e hs (by simp [Region.wanted, hg]) h
  | some jw =>
    obtain ⟨j, want⟩ := jw
    simp only [hg] at h
    cases hd : gdst ops j with
    | none => simp only [hd, no] at h
    | some d =>
      simp only [hd] at h
      cases hl : lk e d with
      | none => simp only [hl, no] at h
      | some v =>
        cases v <;> simp only [hl, no] at h
        case tuple vs =>
          refine hk e hs ?_ h
          have : yielded ops a.tmps j = none := by
            unfold gdst at hd
            unfold yielded
            cases ho : ops[j]? with
            | none => simp [ho] at hd
            | some o =>
              simp only [ho] at hd
              simp only [Option.bind_some, hd, hs.1.get _ _ hl]
          simp only [Region.wanted, hg, this]
          rfl
        rename_i b
        have hy := gd_yield hd hl hs.1
        have hag : S2 F _ a := ⟨hs.1.again hl, hs.2⟩
        have hw : Region.wanted o (yielded ops a.tmps) = (b == want) := by
          simp only [Region.wanted, hg, hy]
          cases b <;> cases want <;> rfl
        cases b with
        | true =>
          simp only [br, beqB_spec] at h
          cases hb : (true == want) with
          | true => simp only [hb, cond_true] at h; exact hr _ hag (by rw [hw, hb]) h
          | false => simp only [hb, cond_false] at h; exact hk _ hag (by rw [hw, hb]) h
        | false =>
          simp only [br, beqB_spec] at h
          cases hb : (false == want) with
          | true => simp only [hb, cond_true] at h; exact hr _ hag (by rw [hw, hb]) h
          | false => simp only [hb, cond_false] at h; exact hk _ hag (by rw [hw, hb]) h

theorem oneOp_guarded {o : Oper} {K : Env → WK} (h : oneOp F ops o K e w) :
    guarded ops o e (fun e => opDen F.P F.T F.E e o.op o.type fun v => pt F.n F.C e o.dst v K) (fun e => pt F.n F.C e o.dst undef K) w := h

theorem seqOps_sound (hF : Ok F) {Q : Exit → Act → World → Prop} {K : Env → WK} (hK : ∀ e a w, S2 F e a → K e w → Q .normal a w) :
    ∀ (l : List Nat) (os : List Oper) (e : Env) (a : Act) (w : World), l.length = os.length → (∀ k i : Nat, l[k]? = some i → ops[i]? = os[k]?) → S2 F e a → seqOps F ops os K e w → wpOps F.P ops Q l a w
  | [], [], e, a, w, _, _, hs, h => hK e a w hs h
  | [], _ :: _, _, _, _, hl, _, _, _ => by simp at hl
  | _ :: _, [], _, _, _, hl, _, _, _ => by simp at hl
  | i :: l, o :: os, e, a, w, hl, hi, hs, h => by
    have hio : ops[i]? = some o := hi 0 i rfl
    have rest := fun e a w => seqOps_sound hF hK l os e a w (by simpa using hl) (fun (k j : Nat) (hk : l[k]? = some j) => hi (k + 1) j (by simpa using hk))
    rw [wpOps_cons]
    unfold wpOp
    simp only [hio]
    refine guarded_sound (F := F) hs (oneOp_guarded h) (fun e' hs' hw hr => ?_) (fun e' hs' hw hr => ?_)
    · rw [if_pos hw]
      refine .inl (wp_of_to (opDen_to hF.eqs hF.tab hs'.1 hr) fun v w' hv => ?_)
      obtain ⟨e'', hs'', hk⟩ := pt_sound hs' hv
      exact rest _ _ _ hs'' hk
    · rw [if_neg (by rw [hw]; exact Bool.false_ne_true)]
      obtain ⟨e'', hs'', hk⟩ := pt_sound hs' hr
      exact rest _ _ _ hs'' hk

/-! ### Regions that draw their order -/

abbrev SL := List (Nat × (World → Prop))

def stayS (o : Oper) (S : SL) : SL := S.filter fun p => !waits o p.1

/-- Whatever order is picked from here on, and what is held holds behind every operation that doesn't wait for it. -/
def wpAnyS (P : Program) (ops : Array Oper) (Q : Exit → Act → World → Prop) : Nat → SL → Array Bool → Act → World → Prop
  | 0, _, listed, a, w => Region.ready .any ops listed = [] ∧ Q .normal a w
  | fuel + 1, S, listed, a, w =>
    (Region.ready .any ops listed = [] → Q .normal a w) ∧
    ∀ i ∈ Region.ready .any ops listed, ∀ o, ops[i]? = some o → wpOp P ops Q i (fun a' w' => (∀ p ∈ stayS o S, p.2 w') ∧ wpAnyS P ops Q fuel (stayS o S) (listed.setIfInBounds i true) a' w') a w

theorem wpAny_of_S {Q : Exit → Act → World → Prop} : ∀ (fuel : Nat) (S : SL) (listed : Array Bool) (a : Act) (w : World), wpAnyS P ops Q fuel S listed a w → wpAny P .any ops Q fuel listed a w
  | 0, _, _, _, _, h => h
  | fuel + 1, S, listed, a, w, h => ⟨h.1, fun i hi => by
      obtain ⟨_, o, ho, _⟩ := mem_ready.1 hi
      exact wpOp_mono (fun a' w' h' => wpAny_of_S fuel _ _ a' w' h'.2) (h.2 i hi o ho)⟩

theorem wpAnyS_mono {Q : Exit → Act → World → Prop} : ∀ (fuel : Nat) (S S' : SL) (listed : Array Bool) (a : Act) (w : World), (∀ p ∈ S', p ∈ S ∨ ∀ w, p.2 w) → wpAnyS P ops Q fuel S listed a w → wpAnyS P ops Q fuel S' listed a w
  | 0, _, _, _, _, _, _, h => h
  | fuel + 1, S, S', listed, a, w, hsub, h => ⟨h.1, fun i hi o ho => by
      have hs : ∀ p ∈ stayS o S', p ∈ stayS o S ∨ ∀ w, p.2 w := fun p hp => by
        simp only [stayS, List.mem_filter] at hp ⊢
        exact (hsub _ hp.1).imp (fun h => ⟨h, hp.2⟩) id
      exact wpOp_mono (fun a' w' h' => ⟨fun p hp => (hs p hp).elim (h'.1 p) (fun h => h w'), wpAnyS_mono fuel _ _ _ a' w' hs h'.2⟩) (h.2 i hi o ho)⟩

theorem wpOp_and {Q : Exit → Act → World → Prop} {i : Nat} {K : Act → World → Prop} (h : wpOp P ops Q i K a w) : wpOp P ops Q i K a w := h

/-- An operation that may come up now, and yields its value in every world in which 'Y' holds, may be taken first; 'Y' is held from then on. -/
theorem wpAnyS_first {Q : Exit → Act → World → Prop} {i : Nat} {oi : Oper} {v : Value} {Y : World → Prop} (hi : ops[i]? = some oi) (hsel : ∀ (j : Nat) (o : Oper) cs b, ops[j]? = some o → o.op ≠ .select cs b)
    (hQ : ∀ c a w, Q (.panic c) (a.put oi.dst v) w → Q (.panic c) a w) :
    ∀ (fuel : Nat) (S : SL) (listed : Array Bool) (a : Act) (w : World),
      (∀ j oj, ops[j]? = some oj → j ≠ i → listed.getD j true = false → (∀ e ∈ oj.after, Region.binds .any e = true → e.on ≠ i) → oi.apart ops oj = true) →
      i ∈ Region.ready .any ops listed → YieldsIf P ops Y oi v a → Y w → (∀ p ∈ S, p.2 w) →
      wpAnyS P ops Q fuel ((i, Y) :: S) (listed.setIfInBounds i true) (a.put oi.dst v) w → wpAnyS P ops Q (fuel + 1) S listed a w := by
  intro fuel
  induction fuel with
  | zero =>
    intro S listed a w _ hr hy hY hS H
    refine ⟨fun h => (by rw [h] at hr; cases hr), fun j hj o ho => ?_⟩
    by_cases hji : j = i
    · subst hji
      rw [hi] at ho; cases ho
      exact hy.wpOp hi hY ⟨fun p hp => hS p (List.mem_filter.1 hp).1, H⟩
    · have := ready_mono hj hji
      rw [H.1] at this
      cases this
  | succ fuel ih =>
    intro S listed a w hfree hr hy hY hS H
    refine ⟨fun h => (by rw [h] at hr; cases hr), fun j hj o ho => ?_⟩
    by_cases hji : j = i
    · subst hji
      rw [hi] at ho; cases ho
      refine hy.wpOp hi hY ⟨fun p hp => hS p (List.mem_filter.1 hp).1, ?_⟩
      exact wpAnyS_mono _ _ _ _ _ _ (fun p hp => .inl (List.mem_cons_of_mem _ (List.mem_filter.1 hp).1)) H
    · have h1 := H.2 j (ready_mono hj hji) o ho
      obtain ⟨hjun, oj, hoj, hall⟩ := mem_ready.1 hj
      rw [ho] at hoj; cases hoj
      have hun := (mem_ready.1 hr).1
      have hnot : ∀ e ∈ o.after, Region.binds .any e = true → e.on ≠ i := fun e he hb heq => by
        have h1 := hall e he hb
        have h0 := hun
        rw [heq] at h1
        rcases Nat.lt_or_ge i listed.size with h' | h'
        · simp [h'] at h0 h1; rw [h0] at h1; cases h1
        · simp [Array.getElem?_eq_none h'] at h1
      have hnw : waits o i = false := by
        cases hw : waits o i with
        | false => rfl
        | true =>
          simp only [waits, Array.any_eq_true'] at hw
          obtain ⟨e, he, hb⟩ := hw
          simp only [Bool.and_eq_true] at hb
          exact absurd (Nat.eq_of_beq_eq_true hb.2) (hnot e he hb.1)
      have hcons : stayS o ((i, Y) :: S) = (i, Y) :: stayS o S := by simp [stayS, hnw]
      rw [hcons] at h1
      have h2 := wpOp_putIf ho (hfree j o ho hji hjun hnot) (fun cs b => hsel i oi cs b hi) (fun cs b => hsel j o cs b ho) hQ hy h1
      have hfree' : ∀ k ok, ops[k]? = some ok → k ≠ i → (listed.setIfInBounds j true).getD k true = false →
          (∀ e ∈ ok.after, Region.binds .any e = true → e.on ≠ i) → oi.apart ops ok = true := fun k ok hk hki hun hno => by
        refine hfree k ok hk hki ?_ hno
        by_cases hjk : j = k
        · subst hjk; exact hjun
        · rw [getD_set_ne true hjk] at hun; exact hun
      refine wpOp_mono (fun a' w' h3 => ?_) h2
      have hY' : Y w' := h3.2.1 (i, Y) (by simp)
      have hS' : ∀ p ∈ stayS o S, p.2 w' := fun p hp => h3.2.1 p (by simp [hp])
      refine ⟨hS', ih (stayS o S) (listed.setIfInBounds j true) a' w' hfree' (ready_mono hr (Ne.symm hji)) h3.1 hY' hS' ?_⟩
      rw [Array.setIfInBounds_comm _ _ hji]
      exact h3.2.2

def YS (S : Held) : SL := S.map fun p => (p.1, fun w => Holds w p.2.1 p.2.2)

theorem YS_stays (o : Oper) (S : Held) : YS (stays o S) = stayS o (YS S) := by
  induction S with
  | nil => rfl
  | cons p S ih =>
    simp only [YS, stays, stayS, List.map_cons, List.filter_cons] at ih ⊢
    cases waits o p.1 <;> simp [ih]

theorem keep_out : ∀ {S : Held} {K : WK} {w : World}, keep S K w → (∀ p ∈ YS S, p.2 w) ∧ K w
  | [], _, _, h => ⟨by simp [YS], h⟩
  | (i, b, cs) :: S, K, w, h => by
    obtain ⟨h1, h2⟩ := h
    obtain ⟨h3, h4⟩ := keep_out h2
    refine ⟨fun p hp => ?_, h4⟩
    simp only [YS, List.map_cons, List.mem_cons] at hp
    rcases hp with rfl | hp
    · exact h1
    · exact h3 p hp

theorem allR_out : ∀ {l : List Nat} {f : Nat → WK} {w : World}, allR l f w → ∀ i ∈ l, f i w
  | [], _, _, _, i, hi => by simp at hi
  | [j], f, w, h, i, hi => by simp at hi; subst hi; exact h
  | j :: k :: r, f, w, h, i, hi => by
    rcases List.mem_cons.1 hi with rfl | hi
    · exact h.1
    · exact allR_out (l := k :: r) h.2 i hi

/-- What a quiet operation of a drawn region comes to: its value, where what it read holds. -/
theorem qDen_out (hE : EqsOk F.P F.E) (hs : Sub F.n e a) {i : Nat} {o : Oper} {S : Held} {K : Held → VK} (hq : Nat.blt (cls F.P o.op) 2 = true) (h : qDen F e i o S K w) (hS : ∀ p ∈ YS S, p.2 w) :
    ∃ v Y S', (∀ w', Y w' → (execOp a.eval o).run F.P w' = .ok (.value v) w') ∧ Y w ∧ K S' v w ∧ (∀ p ∈ YS S', p.2 w) ∧ (∀ p ∈ (i, Y) :: YS S, p ∈ YS S' ∨ ∀ w, p.2 w) := by
  rw [Nat.blt_eq] at hq
  by_cases hc : cls F.P o.op = 0
  · have : opDen F.P F.T F.E e o.op o.type (K S) w := by
      unfold qDen at h
      generalize hop : o.op = op at h
      split at h
      · rw [hop] at hc; simp [cls] at hc
      · exact h
    obtain ⟨v, hr, hk⟩ := opDen_pure hE hs hc this
    exact ⟨v, fun _ => True, S, fun w' _ => hr w', trivial, hk, hS, fun p hp => by
      rcases List.mem_cons.1 hp with rfl | hp
      · exact .inr fun _ => trivial
      · exact .inl hp⟩
  · have h1 : cls F.P o.op = 1 := by omega
    obtain ⟨dst, op, ty, pos, after, guard⟩ := o
    simp only at h1
    have : ∃ t x, op = .load t x := by
      cases op <;> simp only [cls] at h1 <;> first
        | exact ⟨_, _, rfl⟩
        | (exfalso; omega)
        | (exfalso; revert h1; split <;> omega)
        | (exfalso; revert h1; split <;> (try split) <;> omega)
    obtain ⟨t, x, rfl⟩ := this
    simp only [qDen] at h
    cases hx : ev e x with
    | none => simp only [hx, no] at h
    | some v =>
      cases v <;> simp only [hx, no] at h
      rename_i p
      cases p with
      | none => exact h.elim
      | some p =>
        simp only at h
        obtain ⟨v, cs, hH, hr, hk⟩ := loadDen_spec h
        refine ⟨v, fun w' => Holds w' p cs, (i, p, cs) :: S, fun w' hw' => ?_, hH, hk, fun q hq => ?_, fun q hq => .inl (by simpa [YS] using hq)⟩
        · simp only [execOp, hs.eval hx]
          simp [Instr.loadAt, Instr.sureAddr, hr w' hw']
        · simp only [YS, List.map_cons, List.mem_cons] at hq
          rcases hq with rfl | hq
          · exact hH
          · exact hS q hq

theorem denDraw_sound (hF : Ok F) (hsel : Region.noSelect ops = true) {Q : Exit → Act → World → Prop} (hQ : ∀ c a w, ¬ Q (.panic c) a w) {K : Env → WK} (hK : ∀ e a w, S2 F e a → K e w → Q .normal a w) :
    ∀ (f : Nat) (listed : Array Bool) (S : Held) (e : Env) (a : Act) (w : World), S2 F e a → (∀ p ∈ YS S, p.2 w) → denDraw F ops K f listed S e w → wpAnyS F.P ops Q f (YS S) listed a w
  | 0, listed, S, e, a, w, hs, hS, h => by
    simp only [denDraw] at h
    cases hr : Region.ready .any ops listed with
    | nil => simp only [hr] at h; exact ⟨hr, hK e a w hs h⟩
    | cons r rs => simp only [hr, no] at h
  | f + 1, listed, S, e, a, w, hs, hS, h => by
    simp only [denDraw] at h
    cases hr : Region.ready .any ops listed with
    | nil =>
      simp only [hr] at h
      exact ⟨fun _ => hK e a w hs h, fun i hi => by rw [hr] at hi; simp at hi⟩
    | cons r rs =>
      simp only [hr] at h
      cases hf : (r :: rs).find? (quietAt F.P ops) with
      | some i =>
        simp only [hf] at h
        have hmem : i ∈ Region.ready .any ops listed := by rw [hr]; exact List.mem_of_find?_eq_some hf
        have hquiet := List.find?_some hf
        cases ho : ops[i]? with
        | none => simp only [ho, no] at h
        | some o =>
          simp only [ho] at h
          simp only [quietAt, ho] at hquiet
          cases hfree : Region.free .any ops listed i with
          | false => simp only [hfree, cond_false, no] at h
          | true =>
            simp only [hfree, cond_true] at h
            have hfs := Region.free_spec ho hfree
            refine guarded_sound (F := F) hs h (fun e' hs' hw hrun => ?_) (fun e' hs' hw hrun => ?_)
            · obtain ⟨v, Y, S', hy, hY, hk, hS', hsub⟩ := qDen_out hF.eqs hs'.1 hquiet hrun hS
              obtain ⟨e'', hs'', hk⟩ := pt_sound hs' hk
              have ih := denDraw_sound hF hsel hQ hK f _ S' e'' _ w hs'' hS' hk
              exact wpAnyS_first ho (Region.noSelect_spec hsel) (fun c a w h => (hQ _ _ _ h).elim) f (YS S) listed a w hfs hmem (.inl ⟨hw, hy⟩) hY hS (wpAnyS_mono _ _ _ _ _ _ hsub ih)
            · obtain ⟨e'', hs'', hk⟩ := pt_sound hs' hrun
              have ih := denDraw_sound hF hsel hQ hK f _ S e'' _ w hs'' hS hk
              refine wpAnyS_first (Y := fun _ => True) ho (Region.noSelect_spec hsel) (fun c a w h => (hQ _ _ _ h).elim) f (YS S) listed a w hfs hmem (.inr ⟨hw, rfl⟩) trivial hS
                (wpAnyS_mono _ _ _ _ _ _ (fun p hp => by
                  rcases List.mem_cons.1 hp with rfl | hp
                  · exact .inr fun _ => trivial
                  · exact .inl hp) ih)
      | none =>
        simp only [hf] at h
        refine ⟨fun h0 => (by rw [hr] at h0; cases h0), fun i hi o ho => ?_⟩
        have hi' := allR_out h i (by rw [← hr]; exact hi)
        simp only [ho] at hi'
        unfold wpOp
        simp only [ho]
        refine guarded_sound (F := F) hs hi' (fun e' hs' hw hrun => ?_) (fun e' hs' hw hrun => ?_)
        · rw [if_pos hw]
          refine .inl (wp_of_to (opDen_to hF.eqs hF.tab hs'.1 hrun) fun v w' hv => ?_)
          obtain ⟨hk, hv⟩ := keep_out hv
          obtain ⟨e'', hs'', hk'⟩ := pt_sound hs' hv
          rw [← YS_stays]
          exact ⟨hk, denDraw_sound hF hsel hQ hK f _ _ e'' _ w' hs'' hk hk'⟩
        · rw [if_neg (by rw [hw]; exact Bool.false_ne_true)]
          obtain ⟨e'', hs'', hk'⟩ := pt_sound hs' hrun
          have ih := denDraw_sound hF hsel hQ hK f _ S e'' _ w hs'' hS hk'
          refine ⟨fun p hp => hS p (List.mem_filter.1 hp).1, wpAnyS_mono _ _ _ _ _ _ (fun p hp => .inl (List.mem_filter.1 hp).1) ih⟩

/-! ### Code -/

theorem slots_spec {n : Nat} {e : Env} {a : Act} (hs : Sub n e a) : ∀ {l : List (Nat × Value)} {vs : List Value}, slots e l = some vs →
    (∀ t v, lk (zipE l vs []) t = some v → a.tmps[t]? = some v) ∧ vs = l.map (fun p => a.tmps.getD p.1 undef) ∧ (∀ f, allTs (l.map (·.2)) f → f vs)
  | [], vs, h => by
    simp only [slots, Option.some.injEq] at h; subst h
    exact ⟨fun t v h => by simp [zipE, lk] at h, rfl, fun f h => h⟩
  | (t, z) :: l, vs, h => by
    simp only [slots] at h
    cases h1 : lk e t with
    | none => simp [h1] at h
    | some v =>
      simp only [h1] at h
      cases h2 : fits z v with
      | false => simp [h2] at h
      | true =>
        simp only [h2, cond_true] at h
        cases h3 : slots e l with
        | none => simp [h3] at h
        | some us =>
          simp only [h3, Option.some.injEq] at h
          subst h
          obtain ⟨i1, i2, i3⟩ := slots_spec hs h3
          refine ⟨fun s u hsu => ?_, ?_, fun f hf => ?_⟩
          · simp only [zipE, lk_cons] at hsu
            split at hsu
            · rename_i hts; subst hts; cases hsu; exact hs.get _ _ h1
            · exact i1 s u hsu
          · simp only [List.map_cons, ← i2]
            have := hs.get t v h1
            rw [Array.getD_eq_getD_getElem?, this]; rfl
          · simp only [List.map_cons, allTs] at hf
            have key : allTs (l.map (·.2)) fun vs => f (v :: vs) := by
              cases z <;> cases v <;> simp only [fits, Bool.false_eq_true, decide_eq_true_eq] at h2 <;> simp only [allT] at hf <;> first
                | (rename_i p q; cases p <;> cases q <;> simp only [fits, Bool.false_eq_true] at h2 <;> exact hf _)
                | exact hf _
                | exact hf _ _ _
                | (subst h2; exact hf _)
                | (rename_i cs; exact hf cs.toList)
            exact i3 _ key

theorem lk_zipE : ∀ (l : List (Nat × Value)) (vs : List Value) (C : Env) (t : Nat) (v : Value), lk (zipE l vs C) t = some v → lk (zipE l vs []) t = some v ∨ lk C t = some v
  | [], vs, C, t, v, h => by cases vs <;> (simp only [zipE] at h; exact .inr h)
  | (s, z) :: l, [], C, t, v, h => by simp only [zipE] at h; exact .inr h
  | (s, z) :: l, u :: vs, C, t, v, h => by
    simp only [zipE, lk_cons] at h ⊢
    split at h
    · rename_i hst; rw [if_pos hst]; exact .inl h
    · rename_i hst; rw [if_neg hst]; exact lk_zipE l vs C t v h

theorem S2.zip (hs : S2 F e a) {l : List (Nat × Value)} {vs : List Value} (h : slots e l = some vs) : S2 F (zipE l vs F.C) a := by
  refine ⟨⟨hs.1.size, hs.1.defers, fun t v ht => ?_⟩, hs.2⟩
  rcases lk_zipE l vs F.C t v ht with h' | h'
  · exact (slots_spec hs.1 h).1 t v h'
  · exact hs.2.get t v h'

theorem den_sound (hF : Ok F) : ∀ (c : Code) (Q : Exit → Env → WK) (e : Env) (a : Act) (w : World), S2 F e a → den F c Q e w → c.wp F.P (QS F Q) a w := by
  intro c
  induction c with
  | skip => intro Q e a w hs h; exact wp_skip ⟨⟨e, hs, h⟩, by simp⟩
  | ret => intro Q e a w hs h; exact wp_ret ⟨⟨e, hs, h⟩, by simp⟩
  | exit i => intro Q e a w hs h; exact wp_exit ⟨⟨e, hs, h⟩, by simp⟩
  | seq x y ihx ihy =>
    intro Q e a w hs h
    refine wp_seq (wp_mono (ihx _ e a w hs h) ?_)
    rintro ex a' w' ⟨⟨e', hs', hq⟩, hp⟩
    cases ex <;> simp only [seqQ] at hq
    case normal => exact ihy Q e' a' w' hs' hq
    all_goals exact ⟨⟨e', hs', hq⟩, hp⟩
  | cond x c1 c2 ih1 ih2 =>
    intro Q e a w hs h
    simp only [den] at h
    cases hx : ev e x with
    | none => simp only [hx, no] at h
    | some v =>
      cases v <;> simp only [hx, no] at h
      rename_i b
      cases b with
      | true => exact wp_cond_true (hs.1.eval hx) (ih1 Q e a w hs h)
      | false => exact wp_cond_false (hs.1.eval hx) (ih2 Q e a w hs h)
  | block i c ih =>
    intro Q e a w hs h
    refine wp_block (wp_mono (ih _ e a w hs h) ?_)
    rintro ex a' w' ⟨⟨e', hs', hq⟩, hp⟩
    cases ex <;> simp only [blockQ] at hq
    case exit j =>
      simp only [Exit.inBlock]
      cases hb : Nat.beq j i with
      | true => rw [if_pos (Nat.eq_of_beq_eq_true hb)]; simp only [hb, cond_true] at hq; exact ⟨⟨e', hs', hq⟩, by simp⟩
      | false =>
        have hne : j ≠ i := fun h => by simp [h] at hb
        rw [if_neg hne]; simp only [hb, cond_false] at hq; exact ⟨⟨e', hs', hq⟩, by simp⟩
    all_goals exact ⟨⟨e', hs', hq⟩, hp⟩
  | loop c ih =>
    intro Q e a w hs h
    simp only [den] at h
    cases hl : annOf F.ann (key c) with
    | none => simp only [hl, no] at h
    | some l =>
      simp only [hl] at h
      cases hv : slots e l with
      | none => simp only [hv, no] at h
      | some vs =>
        simp only [hv] at h
        obtain ⟨I, μ, h0, hround⟩ := h
        have hread := (slots_spec hs.1 hv).2.1
        refine wp_loop (fun a w => S2 F (zipE l (l.map fun p => a.tmps.getD p.1 undef) F.C) a ∧ I (l.map fun p => a.tmps.getD p.1 undef) w ∧ ∀ f, allTs (l.map (·.2)) f → f (l.map fun p => a.tmps.getD p.1 undef))
          (fun a w => μ (l.map fun p => a.tmps.getD p.1 undef) w) ?_ ?_
        · rw [← hread]; exact ⟨hs.zip hv, h0, (slots_spec hs.1 hv).2.2⟩
        · intro a1 w1 ⟨hs1, hI1, hall⟩
          have hr := hall _ hround w1 hI1
          refine wp_mono (ih _ _ a1 w1 hs1 hr) ?_
          rintro ex a' w' ⟨⟨e', hs', hq⟩, hp⟩
          cases ex <;> simp only [seqQ] at hq
          case normal =>
            simp only [loopQ] at hq
            cases hv' : slots e' l with
            | none => simp only [hv', no] at hq
            | some vs' =>
              simp only [hv'] at hq
              have hread' := (slots_spec hs'.1 hv').2.1
              simp only [Exit.then]
              rw [← hread']
              exact ⟨⟨hs'.zip hv', hq.1, (slots_spec hs'.1 hv').2.2⟩, hq.2⟩
          all_goals exact ⟨⟨e', hs', hq⟩, hp⟩
  | region id ops draw =>
    intro Q e a w hs h
    simp only [den] at h
    cases draw with
    | true =>
      simp only [cond_true] at h
      cases hsel : Region.noSelect ops with
      | false => simp only [hsel, cond_false, no] at h
      | true =>
        simp only [hsel, cond_true, tick] at h
        refine wp_region_any hF.mixed ?_
        rw [World.drew_eq]
        exact wpAny_of_S _ _ _ _ _ (denDraw_sound hF hsel (fun c a w => QS_panic) (fun e a w hs hk => ⟨⟨e, hs, hk⟩, by simp⟩) _ _ [] e a _ hs (by simp [YS]) h)
    | false =>
      simp only [cond_false] at h
      refine wp_region (seqOps_sound hF (fun e a w hs hk => ⟨⟨e, hs, hk⟩, by simp⟩) (List.range ops.size) ops.toList e a w (by simp) (fun k i hk => ?_) hs h)
      rw [List.getElem?_range] at hk
      · simp only [Option.some.injEq] at hk; subst hk; simp
      · have := (List.getElem?_eq_some_iff.1 hk).1; simpa using this
  | _ => intro Q e a w hs h; exact h.elim

/-! ### Calls -/

def rets (P : Program) (e : Env) : List ResultVar → (List Value → WK) → WK
  | [], K => K []
  | .tmp t :: r, K => match lk e t with
    | some v => rets P e r fun vs => K (v :: vs)
    | none => no
  | .cell b t :: r, K => match lk e b with
    | some (.pointer (some a)) => loadDen P t a fun _ v => rets P e r fun vs => K (v :: vs)
    | _ => no

def retV (vs : List Value) : Value := match vs with | [v] => v | vs => .tuple ⟨vs⟩

def retK (P : Program) (rs : List ResultVar) (K : VK) (e : Env) : WK := rets P e rs fun vs => K (retV vs)

def retQ (P : Program) (rs : List ResultVar) (K : VK) : Exit → Env → WK
  | .normal, e => retK P rs K e
  | .ret, e => retK P rs K e
  | _, _ => no

/-- The arguments, each in its slot; those in 'mut' are written by the body. -/
def argsE (mutable : List Nat) (want : Bool) : Nat → List Value → Env
  | _, [] => []
  | i, v :: vs => bif beqB (mutable.any (Nat.beq i)) want then (i, v) :: argsE mutable want (i + 1) vs else argsE mutable want (i + 1) vs

theorem lk_argsE (m : List Nat) (b : Bool) : ∀ (vs : List Value) (i t : Nat) (v : Value), lk (argsE m b i vs) t = some v → i ≤ t ∧ vs[t - i]? = some v
  | [], i, t, v, h => by simp [argsE, lk] at h
  | u :: vs, i, t, v, h => by
    simp only [argsE] at h
    have rest : lk (argsE m b (i + 1) vs) t = some v → i ≤ t ∧ (u :: vs)[t - i]? = some v := fun h => by
      obtain ⟨h1, h2⟩ := lk_argsE m b vs (i + 1) t v h
      refine ⟨by omega, ?_⟩
      rw [show t - i = (t - (i + 1)) + 1 from by omega]
      simpa using h2
    cases hb : beqB (m.any (Nat.beq i)) b with
    | false => simp only [hb, cond_false] at h; exact rest h
    | true =>
      simp only [hb, cond_true, lk_cons] at h
      split at h
      · rename_i hit; subst hit; cases h; exact ⟨Nat.le_refl _, by simp⟩
      · exact rest h

theorem lk_append : ∀ (e f : Env) (t : Nat) (v : Value), lk (e ++ f) t = some v → lk e t = some v ∨ lk f t = some v
  | [], f, t, v, h => .inr h
  | (s, u) :: e, f, t, v, h => by
    simp only [List.cons_append, lk_cons] at h ⊢
    split at h
    · rename_i hs; rw [if_pos hs]; exact .inl h
    · rename_i hs; rw [if_neg hs]; exact lk_append e f t v h

def resM (tm : Array Value) : ResultVar → Sem Value
  | .tmp t => pure (tm.getD t undef)
  | .cell b t => do loadVar t (← asAddr (tm.getD b undef))

theorem results_eq (fn : Func) (tm : Array Value) : results fn tm = (do let vs ← fn.results.mapM (resM tm); pure (if h : vs.size = 1 then vs[0] else .tuple vs)) := by
  unfold results
  congr 1

theorem rets_spec {n : Nat} {e : Env} {a : Act} (hs : Sub n e a) : ∀ {rs : List ResultVar} {K : List Value → WK}, rets P e rs K w → ∃ vs, (rs.mapM (resM a.tmps)).run P w = .ok vs w ∧ K vs w
  | [], K, h => ⟨[], rfl, h⟩
  | .cell b t :: r, K, h => by
    simp only [rets] at h
    cases h1 : lk e b with
    | none => simp only [h1, no] at h
    | some v =>
      cases v <;> simp only [h1, no] at h
      rename_i p
      cases p with
      | none => exact h.elim
      | some p =>
        simp only at h
        obtain ⟨v, cs, hH, hr, hk⟩ := loadDen_spec h
        obtain ⟨vs, h2, hk⟩ := rets_spec hs hk
        have hg : a.tmps.getD b undef = .pointer (some p) := by rw [Array.getD_eq_getD_getElem?, hs.get b _ h1]; rfl
        refine ⟨v :: vs, ?_, hk⟩
        have h3 : (resM a.tmps (.cell b t)).run P w = .ok v w := by
          simp only [resM, hg, asAddr, pure_bind]
          exact hr w hH
        rw [List.mapM_cons, Sem.run_bind, h3, Result.andThen_ok, Sem.run_bind, h2]; rfl
  | .tmp t :: r, K, h => by
    simp only [rets] at h
    cases h1 : lk e t with
    | none => simp only [h1, no] at h
    | some v =>
      simp only [h1] at h
      obtain ⟨vs, h2, hk⟩ := rets_spec hs h
      have hg : a.tmps.getD t undef = v := by rw [Array.getD_eq_getD_getElem?, hs.get t v h1]; rfl
      refine ⟨v :: vs, ?_, hk⟩
      rw [List.mapM_cons, Sem.run_bind, resM, Sem.run_pure, Result.andThen_ok, Sem.run_bind, h2, hg]; rfl

/-- The function's body, from its arguments on. -/
def body (P : Program) (T : Tab) (E : Eqs) (n : Nat) (m : List Nat) (ann : List (Nat × List (Nat × Value))) (rs : List ResultVar) (c : Code) : WP := fun args K =>
  den ⟨P, T, E, n, argsE m false 0 args, ann⟩ c (retQ P rs K) (argsE m true 0 args ++ argsE m false 0 args)

/-- A function of the program, by its body's transformer. -/
theorem entry_of {P : Program} {T : Tab} {E : Eqs} {g : Nat} {fn : Func} {c : Code} {p : WP} (m : List Nat) (ann : List (Nat × List (Nat × Value))) (hT : TabOk P T) (hE : EqsOk P E) (hm : P.follows .mixedOrders = true)
    (hf : P.funcs[g]? = some fn) (hb : fn.body = some c) (hname : (fn.name == "runtime.NumGoroutine") = false) (hp : ∀ args K w, p args K w → args.length ≤ fn.ntmps ∧ body P T E fn.ntmps m ann fn.results.toList c args K w) : Entry P g p := by
  refine ⟨⟨fn, hf, hname, by rw [hb]; rfl⟩, fun args K w h => ?_⟩
  obtain ⟨hlen, h⟩ := hp args K w h
  refine calls_of_wp hf hb ?_
  have hsz : (⟨args⟩ ++ Array.replicate (fn.ntmps - (⟨args⟩ : Array Value).size) undef : Array Value).size = fn.ntmps := by
    simp; omega
  have hget : ∀ (b : Bool) t v, lk (argsE m b 0 args) t = some v → (⟨args⟩ ++ Array.replicate (fn.ntmps - (⟨args⟩ : Array Value).size) undef : Array Value)[t]? = some v := fun b t v ht => by
    obtain ⟨_, h2⟩ := lk_argsE m b args 0 t v ht
    simp only [Nat.sub_zero] at h2
    have hlt : t < args.length := (List.getElem?_eq_some_iff.1 h2).1
    rw [Array.getElem?_append_left (by simpa using hlt)]
    simpa using h2
  refine wp_mono (den_sound ⟨hT, hE, hm⟩ c _ _ ⟨⟨args⟩ ++ Array.replicate (fn.ntmps - (⟨args⟩ : Array Value).size) undef, []⟩ w ⟨⟨hsz, rfl, fun t v ht => ?_⟩, ⟨hsz, rfl, fun t v ht => hget false t v ht⟩⟩ h) ?_
  · rcases lk_append _ _ t v ht with h' | h'
    · exact hget true t v h'
    · exact hget false t v h'
  · rintro ex a' w' ⟨⟨e', hs', hq⟩, hpn⟩
    have fin : retK P fn.results.toList K e' w' → a'.defers = [] ∧ ∃ v, (results fn a'.tmps).run P w' = .ok v w' ∧ ∃ u, (Ending.returned v) = .returned u ∧ K u w' := by
      intro hr
      obtain ⟨vs, this, hk⟩ := rets_spec hs'.1 hr
      refine ⟨hs'.1.defers, retV vs, ?_, _, rfl, hk⟩
      have hm2 : (fn.results.mapM (resM a'.tmps)).run P w' = .ok ⟨vs⟩ w' := by
        rw [← Array.toArray_toList (xs := fn.results), List.mapM_toArray, Sem.run_map, this]; rfl
      rw [results_eq, Sem.run_bind, hm2]
      simp only [Result.andThen_ok, Sem.run_pure]
      congr 1
      unfold retV
      cases vs with
      | nil => rfl
      | cons v vs =>
        cases vs with
        | nil => rfl
        | cons u vs => simp
    cases ex with
    | normal => exact fin hq
    | ret => exact fin hq
    | exit i => exact hq.elim
    | goto i => exact hq.elim
    | panic c => exact absurd rfl (hpn c)
    | outgrown => exact hq.elim

end
end Go.Den
