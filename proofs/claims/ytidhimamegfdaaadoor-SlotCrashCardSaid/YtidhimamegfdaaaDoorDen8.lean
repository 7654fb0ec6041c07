/- Soundness: new rows, 'append', conversions, calls. -/
import Derived.Test.YtidhimamegfdaaaDoorDen7
import Derived.Laws.BytesString
import Derived.Laws.MakeOwn
namespace Go.Den
set_option linter.unusedSimpArgs false
set_option linter.unusedVariables false
section
variable {P : Program} {K : VK} {w : World}

/-- A value at the end, the world turned. -/
def SV (P : Program) (s : Sem Value) (w : World) (K : VK) : Prop := ∃ v w', s.run P w = .ok v w' ∧ K v w'

theorem SV.to {s : Sem Value} (h : SV P s w K) : To P (do pure (.value (← s))) w K := by
  obtain ⟨v, w', hr, hk⟩ := h
  exact .inl ⟨v, w', by simp [hr], hk⟩

theorem PV.sv {s : Sem Value} (h : PV P s w K) : SV P s w K := let ⟨v, hr, hk⟩ := h; ⟨v, w, hr w, hk⟩

theorem mk_sv {cs : List Value} {t : TypeId} (h : mk cs (fun r => K (ptrAt r)) w) (v : Value) (hv : cellsL v = cs) : SV P (Instr.box t v) w K := by
  refine ⟨_, _, ?_, h t⟩
  have : v.cells = ⟨cs⟩ := by rw [← hv, ← cells_toList]
  simp [Instr.box, newVar, newRow, this, ptrAt]

theorem alloc_sv {t : TypeId} {z : Value} (hz : zeroOf P t = some z) (h : mk (cellsL z) (fun r => K (ptrAt r)) w) : SV P (Instr.alloc t true (.tuple #[])) w K := by
  refine ⟨_, _, ?_, h t⟩
  have : z.cells = ⟨cellsL z⟩ := by rw [← cells_toList]
  simp [Instr.alloc, run_zeroOf hz, newVar, newRow, this, ptrAt]

theorem allocT_sv {t : TypeId} {z : Value} (hz : zeroOf P t = some z) (h : mkT t (cellsL z) (fun r => K (ptrAt r)) w) : SV P (Instr.alloc t true (.tuple #[])) w K := by
  refine ⟨_, _, ?_, h⟩
  have : z.cells = ⟨cellsL z⟩ := by rw [← cells_toList]
  simp [Instr.alloc, run_zeroOf hz, newVar, newRow, this, ptrAt]

theorem run_firstCells {n size len cap : Nat} {b : Option Addr} {cs : List Value} (h : Src w n size b cs) (hb : b = none → n = 0) :
    (Builtin.firstCells size n (.slice b len cap)).run P w = .ok ⟨cs⟩ w := by
  cases b with
  | none =>
    have h0 := hb rfl; subst h0
    have hl := h.1
    simp at hl; subst hl
    exact run_firstCells_none (P := P) w size 0 len cap
  | some a => exact run_firstCells_some (P := P) w size n a len cap cs h.1 (h.2 a rfl)

theorem run_firstCells_str {s : ByteArray} (size : Nat) : (Builtin.firstCells size s.size (.string s)).run P w = .ok ⟨strCells s⟩ w := by
  have e : s.extract 0 s.size = s := by simp
  simp only [Builtin.firstCells, e, Sem.run_pure, strCells]
  congr 1
  apply Array.ext'
  simp

theorem cut_cap {need old : Nat} {el : TypeId} (t : Nat) : need ≤ (Question.appendCap need old el).cut t := by
  simp only [Question.cut]; omega

/-- 'append' of cells that are known. -/
theorem appC_run {size bytes : Nat} {z : Value} {b : Option Addr} {len cap n : Nat} {new : List Value} {K : Option Addr → Nat → Nat → WK} {t u ty e : TypeId} {i : TypeInfo} {du : TypeDesc} {x : Value}
    (h : appC size bytes (cellsL z) b len cap n new K w) (ht : P.underlying t = some (.slice e)) (hu : P.underlying u = some du) (hdu : ∀ k, du ≠ .int k) (hi : P.info? e = some i) (hs : i.size = size) (hby : i.bytes = bytes) (hz : i.zero = some z)
    (hlen : (Builtin.lenOf x).run P w = .ok n w) (hfirst : ∀ w', (∀ a, w'.cell? a = w.cell? a) → (Builtin.firstCells size n x).run P w' = .ok ⟨new⟩ w') :
    ∃ b' n' c' w', (Builtin.append_ #[t, u] ty #[.slice b len cap, x]).run P w = .ok (.slice b' n' c') w' ∧ K b' n' c' w' := by
  subst hs hby
  have hz' : z.cells = ⟨cellsL z⟩ := by rw [← cells_toList]
  have hnz : (match du with | .int _ => true | _ => false) = false := by cases du <;> first | rfl | exact absurd rfl (hdu _)
  by_cases hle : len + n ≤ cap
  · obtain ⟨h1, h2⟩ := h.1 hle
    cases b with
    | none =>
      refine ⟨_, _, _, _, ?_, h2 rfl⟩
      simp only [Builtin.append_, List.getElem?_toArray, List.getElem?_cons_zero, List.getElem?_cons_succ, Sem.run_bind, run_und ht, run_und hu, run_sizeOf hi, Result.andThen_ok, Sem.run_pure, Bool.false_eq_true, if_false, hlen, Bool.not_false, if_true, hle, hfirst w (fun _ => rfl)]
    | some a =>
      obtain ⟨hc, hk⟩ := h1 a rfl
      refine ⟨_, _, _, _, ?_, hk⟩
      simp only [Builtin.append_, List.getElem?_toArray, List.getElem?_cons_zero, List.getElem?_cons_succ, Sem.run_bind, run_und ht, run_und hu, run_sizeOf hi, Result.andThen_ok, Sem.run_pure, Bool.false_eq_true, if_false, hlen, Bool.not_false, if_true, hle, hfirst w (fun _ => rfl), run_setL _ _ _ _ hc]
  · have hlt : cap < len + n := by omega
    obtain ⟨hb1, hb2, old, hsrc, hn, hk⟩ := h.2 hlt
    have hfit := growslice_fits (old := cap) (bytes := i.bytes) hlt hb1
    have hm : ¬ (((len + n : Nat) : Int) > IntKind.i64.max ∧ (False ∨ i.bytes = 0)) := by
      have e : IntKind.i64.max = 9223372036854775807 := by decide
      rw [e]; omega
    refine ⟨_, _, _, _, ?_, hk _ e (cut_cap (old := cap) (el := e) (w.tape w.drawn (.appendCap (len + n) cap e)))⟩
    have hf1 : ∀ (l c : Nat), (Builtin.firstCells i.size len (.slice b l c)).run P w.drew = .ok ⟨old⟩ w.drew := fun l c =>
      run_firstCells (w := w.drew) ⟨hsrc.1, fun a ha => hsrc.2 a ha⟩ hn
    have hf2 := hfirst w.drew (fun _ => rfl)
    have h48 : ¬ (Builtin.nextslicecap (len + n) cap * i.bytes > 2 ^ 48) := by omega
    simp only [Builtin.append_, List.getElem?_toArray, List.getElem?_cons_zero, List.getElem?_cons_succ, Sem.run_bind, run_und ht, run_und hu, run_sizeOf hi, Result.andThen_ok, Sem.run_pure, Bool.false_eq_true, if_false, hlen, Bool.not_false, if_true, hle,
      typeInfo, run_program, hi, h48, hm, zeroValue, hz, run_choose, Question.forced, run_askRoom, World.drew_eq, hf1, hf2, newRow, run_newObj, World.alloc_eq, hz', Sem.run_ite, run_mark]
    have e2 : (⟨old⟩ ++ ⟨new⟩ : Array Value) = (old ++ new).toArray := by simp
    rw [e2]; rfl

theorem appDen_sv {t u ty : TypeId} {s x : Value} (hh : appDen P t u s x K w) : SV P (Builtin.append_ #[t, u] ty #[s, x]) w K := by
  unfold appDen at hh
  generalize ht : P.underlying t = dt at hh
  split at hh
  case h_2 => exact hh.elim
  rename_i e b n c
  cases hi : P.info? e with
  | none => simp only [hi, no] at hh
  | some i =>
    simp only [hi] at hh
    cases hz : i.zero with
    | none => simp only [hz, no] at hh
    | some z =>
      simp only [hz] at hh
      generalize hu : P.underlying u = du at hh
      split at hh
      · rename_i e' b' m c'
        obtain ⟨new, hsrc, hn, happ⟩ := hh
        obtain ⟨b1, n1, c1, w1, hr, hk⟩ := appC_run (P := P) (ty := ty) (x := .slice b' m c') happ ht hu (fun k => by simp) hi rfl rfl hz rfl (fun w' hw' => run_firstCells (w := w') ⟨hsrc.1, fun a ha j v hj => by rw [hw']; exact hsrc.2 a ha j v hj⟩ hn)
        exact ⟨_, _, hr, hk⟩
      · rename_i y
        cases hs : (Nat.beq i.size 1 && Nat.beq i.bytes 1) with
        | false => simp only [hs, cond_false, no] at hh
        | true =>
          simp only [hs, cond_true] at hh
          simp only [Bool.and_eq_true] at hs
          have h1 := Nat.eq_of_beq_eq_true hs.1
          have h2 := Nat.eq_of_beq_eq_true hs.2
          split at hh
          · obtain ⟨b1, n1, c1, w1, hr, hk⟩ := appC_run (P := P) (ty := ty) (x := .string y) (z := .int .u8 0) hh ht hu (fun k => by simp) hi h1 h2 hz rfl (fun w' _ => run_firstCells_str (w := w') i.size)
            exact ⟨_, _, hr, hk⟩
          · exact hh.elim
      · exact hh.elim

theorem b2s_sv {p : Option Addr} {n c : Nat} {K : ByteArray → WK} (h : b2s p n K w) : ∃ s, (Conv.bytesToString (.slice p n c)).run P w = .ok (.string s) w ∧ K s w := by
  cases p with
  | none => exact ⟨_, rfl, h.1 rfl⟩
  | some a =>
    obtain ⟨cs, hl, hH, hb, hk⟩ := h.2 a rfl
    refine ⟨_, ?_, hk⟩
    subst hl
    have key : ∀ (l : List Value), (∀ v ∈ l, ∃ m, v = .int .u8 m) → ∃ ns : List Int, l = ns.map (.int .u8) ∧ bytesOf l = ns.map fun n => UInt8.ofNat n.toNat := by
      intro l
      induction l with
      | nil => intro _; exact ⟨[], rfl, rfl⟩
      | cons v l ih =>
        intro hv
        obtain ⟨m, rfl⟩ := hv v (by simp)
        obtain ⟨ns, h1, h2⟩ := ih fun v hv' => hv v (by simp [hv'])
        exact ⟨m :: ns, by rw [h1]; rfl, by simp only [List.map_cons, ← h2]; rfl⟩
    have fold : ∀ (ns : List Int) (s : ByteArray), ns.foldl (fun r n => r.push (UInt8.ofNat n.toNat)) s = ⟨s.data ++ (ns.map fun n => UInt8.ofNat n.toNat).toArray⟩ := by
      intro ns
      induction ns with
      | nil => intro s; simp
      | cons n ns ih =>
        intro s
        rw [List.foldl_cons, ih]
        congr 1
        apply Array.ext'
        simp [ByteArray.push]
    obtain ⟨ns, h1, h2⟩ := key cs hb
    have hrun := run_loadCells_list (P := P) w a cs hH
    have := run_bytesToString (P := P) w a cs.length c ns (by rw [hrun, h1])
    rw [this, fold, h2]
    simp [ByteArray.empty, ByteArray.emptyWithCapacity]
    rfl

theorem s2b_sv {e : TypeId} {s : ByteArray} {K : Nat → Nat → WK} (h : s2b s K w) : ∃ r c w', (Conv.stringToBytes e s).run P w = .ok (.slice (some ⟨r, 0, none⟩) s.size c) w' ∧ K r c w' := by
  refine ⟨_, _, _, ?_, h _ e (cut_cap (old := 0) (el := e) (w.tape w.drawn (.appendCap s.size 0 e)))⟩
  have hch : (choose (.appendCap s.size 0 e)).run P w = .ok ((Question.appendCap s.size 0 e).cut (w.tape w.drawn (.appendCap s.size 0 e))) w.drew := rfl
  simp only [Conv.stringToBytes, Sem.run_bind, hch, Result.andThen_ok, newRow, run_newObj, World.alloc_eq, Sem.run_pure, markStringish, run_shape]
  have e1 : (s.data.map fun b => Value.int .u8 b.toNat) = (strCells s).toArray := by
    apply Array.ext'; simp [strCells]
  rw [e1]
  generalize hc : (Question.appendCap s.size 0 e).cut (w.tape w.drawn (Question.appendCap s.size 0 e)) = c
  have hle : s.size ≤ c := by rw [← hc]; exact cut_cap (old := 0) (el := e) _
  have hsz : ((strCells s).toArray ++ Array.replicate (c - s.size) (Value.int .u8 0)).size = c := by
    have : s.data.size = s.size := rfl
    simp [strCells]; omega
  have hsh : (w.drew.alloc (.cells ((strCells s).toArray ++ Array.replicate (c - s.size) (.int .u8 0)) e)).shape? w.drew.heap.size = some (e, c) := by
    simp only [World.shape?, World.alloc, Array.getElem?_push_size, hsz]
  rw [hsh]
  rfl

theorem zeroCells_made (z : Array Value) (n : Nat) : madeCells z (n * z.size) = Builtin.zeroCells z n := rfl

theorem mkSl_sv {t e : TypeId} {i : TypeInfo} {z : Value} {kl kc : IntKind} {l c : Int} (ht : P.underlying t = some (.slice e)) (hi : P.info? e = some i) (hz : i.zero = some z) (hs : (cellsL z).length = i.size)
    (h : mkSl i.bytes (cellsL z) l c (fun b n c => K (.slice b n c)) w) : SV P (Instr.makeSlice t (.int kl l) (.int kc c)) w K := by
  obtain ⟨⟨h0, h1, h2, h3⟩, hk⟩ := h
  refine ⟨_, _, ?_, hk e⟩
  rw [run_make w t e i z ht hi hz kl kc l c h0 h1 (by rw [Int.mul_comm]; exact h3) h2]
  have hsz : z.cells.size = i.size := by rw [← hs, ← cells_toList]; simp
  rw [← hsz, zeroCells_made]
  have : z.cells = ⟨cellsL z⟩ := by rw [← cells_toList]
  rw [this]

end
end Go.Den
