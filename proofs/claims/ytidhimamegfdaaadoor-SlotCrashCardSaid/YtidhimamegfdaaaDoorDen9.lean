/- Soundness: every operation. -/
import Derived.Test.YtidhimamegfdaaaDoorDen8
namespace Go.Den
set_option linter.unusedSimpArgs false
set_option linter.unusedVariables false
section
variable {P : Program} {K : VK} {w : World} {T : Tab} {n : Nat} {e : Env} {a : Act}

/-- A function of the program answers as its transformer says. -/
def Entry (P : Program) (g : Nat) (p : WP) : Prop :=
  (∃ fn, P.funcs[g]? = some fn ∧ (fn.name == "runtime.NumGoroutine") = false ∧ fn.body.isNone = false) ∧
  ∀ args K w, p args K w → Calls P g ⟨args⟩ w fun e w' => ∃ v, e = .returned v ∧ K v w'

def TabOk (P : Program) : Tab → Prop
  | [] => True
  | (g, p) :: r => Entry P g p ∧ TabOk P r

theorem callT_ok : ∀ {T : Tab}, TabOk P T → ∀ {g : Nat} {args : List Value} {K : VK} {w : World}, callT T g args K w →
    (∃ fn, P.funcs[g]? = some fn ∧ (fn.name == "runtime.NumGoroutine") = false ∧ fn.body.isNone = false) ∧ Calls P g ⟨args⟩ w fun e w' => ∃ v, e = .returned v ∧ K v w'
  | [], _, _, _, _, _, h => h.elim
  | (f, p) :: r, hT, g, args, K, w, h => by
    simp only [callT] at h
    cases hb : Nat.beq f g with
    | true =>
      have := Nat.eq_of_beq_eq_true hb
      subst this
      simp only [hb, cond_true] at h
      exact ⟨hT.1.1, hT.1.2 _ _ _ h⟩
    | false =>
      simp only [hb, cond_false] at h
      exact callT_ok hT.2 h

theorem run_callFunc {g : Nat} {args : Array Value} {fn : Func} (h : P.funcs[g]? = some fn) (h1 : (fn.name == "runtime.NumGoroutine") = false) (h2 : fn.body.isNone = false) (w : World) :
    (callFunc g args).run P w = .ok (.enter g args) w := by
  simp only [callFunc, Sem.run_bind, run_program, Result.andThen_ok, h, h1, h2, Bool.false_eq_true, if_false, Sem.run_pure]

theorem callDen_to (hT : TabOk P T) (hs : Sub n e a) {c : Call} {ty : TypeId} (h : callDen P T e c ty K w) : To P (do let d ← resolve a.eval c ty; invoke d.target d.args) w K := by
  obtain ⟨callee, args, ats⟩ := c
  unfold callDen at h
  cases hargs : evs e args.toList with
  | none => simp only [hargs, no] at h
  | some vs =>
    simp only [hargs] at h
    have hmap := hs.evalsA hargs
    cases callee with
    | invoke r m => simp only [no] at h
    | value f =>
      cases hf : ev e f with
      | none => simp only [hf, no] at h
      | some fv =>
        have hfe := hs.eval hf
        cases fv <;> simp only [hf, no] at h
        rename_i fnv first cap
        cases fnv <;> simp only [no] at h
        rename_i g
        cases hz : zeroOf P ty with
        | none => simp only [hz, no] at h
        | some z =>
          simp only [hz] at h
          obtain ⟨⟨fn, h1, h2, h3⟩, hc⟩ := callT_ok hT h
          refine .inr (.inr ⟨g, ⟨first.toList ++ vs ++ cap.toList⟩, w, ?_, hc.mono fun e w' ⟨v, he, hk⟩ => ⟨v, he, xT_out hk⟩⟩)
          simp only [resolve, hfe, hmap, Deferred.ofValue, invoke, Sem.run_bind, Sem.run_pure, Result.andThen_ok]
          rw [run_callFunc h1 h2 h3]
          congr 2
          apply Array.ext'
          simp
    | builtin b =>
      simp only at h
      have base : ∀ s : Sem Value, (∀ cs, builtin b ats ty cs ⟨vs⟩ = (do pure (.value (← s)))) → SV P s w K → To P (do let d ← resolve a.eval ⟨.builtin b, args, ats⟩ ty; invoke d.target d.args) w K := by
        intro s hbs hsv
        have := SV.to hsv
        have e1 : (do let d ← resolve a.eval ⟨.builtin b, args, ats⟩ ty; invoke d.target d.args : Sem Next) = (do pure (.value (← s))) := by
          rw [← hbs (args.map fun | .const _ => true | _ => false)]
          simp only [resolve, hmap, invoke]
          rfl
        rw [e1]; exact this
      unfold builtinDen at h
      generalize hts : ats.toList = ts at h
      split at h
      · rename_i t r x
        refine base (Builtin.len_ ats ty #[x]) (fun cs => rfl) (PV.sv (lenDen_pv (t := t) (.inr ⟨r, hts⟩) h))
      · rename_i k x r
        cases hm : minsD x r with
        | none => simp only [hm, no] at h
        | some m =>
          simp only [hm] at h
          exact base (Builtin.min_ ats ty ⟨.int k x :: r⟩) (fun cs => rfl) ⟨_, w, minsD_run hm w, h⟩
      · rename_i k x r
        cases hm : maxsD x r with
        | none => simp only [hm, no] at h
        | some m =>
          simp only [hm] at h
          exact base (Builtin.max_ ats ty ⟨.int k x :: r⟩) (fun cs => rfl) ⟨_, w, maxsD_run hm w, h⟩
      · rename_i t u s x
        have hats : ats = #[t, u] := by cases ats; simp only at hts; subst hts; rfl
        subst hats
        exact base (Builtin.append_ #[t, u] ty #[s, x]) (fun cs => rfl) (appDen_sv h)
      · exact h.elim

theorem convDen_sv {s d : TypeId} {x : Value} (h : convDen P s d x K w) : SV P (convert s d x) w K := by
  unfold convDen at h
  cases hs : P.underlying s with
  | none => simp only [hs, no] at h
  | some sd =>
    simp only [hs] at h
    generalize hd : P.underlying d = dd at h
    split at h
    · exact ⟨_, _, run_convert_int hs hd _ _ w, h⟩
    · exact ⟨_, _, by cases sd <;> simp [convert, run_und hs, run_und hd], h⟩
    · rename_i el b
      generalize he : P.underlying el = ed at h
      split at h
      · obtain ⟨r, c, w', hr, hk⟩ := s2b_sv (P := P) (e := el) h
        refine ⟨_, w', ?_, hk⟩
        cases sd <;> simp [convert, run_und hs, run_und hd, run_und he, hr]
      · exact h.elim
    · rename_i p m c
      cases sd <;> simp only [no] at h
      rename_i el
      generalize he : P.underlying el = ed at h
      split at h
      · obtain ⟨r, hr, hk⟩ := b2s_sv (P := P) (c := c) h
        refine ⟨_, w, ?_, hk⟩
        simp [convert, run_und hs, run_und hd, run_und he, hr]
      · exact h.elim
    · exact h.elim

theorem buildSlDen_sv {t : TypeId} {m : Nat} {ps : List (Nat × Value)} (hh : buildSlDen P t m ps K w) : SV P (Instr.buildSlice t m ⟨ps⟩) w K := by
  unfold buildSlDen at hh
  cases hu : P.underlying t with
  | none => simp only [hu, no] at hh
  | some d =>
    cases d <;> simp only [hu, no] at hh
    rename_i el
    cases hi : P.info? el with
    | none => simp only [hi, no] at hh
    | some i =>
      simp only [hi] at hh
      cases hz : i.zero with
      | none => simp only [hz, no] at hh
      | some z =>
        simp only [hz] at hh
        cases hb : (Nat.ble (m * i.size) 16777216 && Nat.blt 0 i.size && Nat.beq (cellsL z).length i.size) with
        | false => simp only [hb, cond_false, no] at hh
        | true =>
          simp only [hb, cond_true] at hh
          simp only [Bool.and_eq_true] at hb
          obtain ⟨⟨hb1, hb2⟩, hb3⟩ := hb
          have h1 : m * i.size ≤ 16777216 := Nat.le_of_ble_eq_true hb1
          have h3 := Nat.eq_of_beq_eq_true hb3
          cases hc : catF (Builtin.zeroCells ⟨cellsL z⟩ m).toList ((List.range m).map fun j => (j * i.size, i.size)) 0 0 (ps.map fun p => (p.1, cellsL p.2)) with
          | none => simp only [hc, no] at hh
          | some y =>
            obtain ⟨cs, p⟩ := y
            simp only [hc] at hh
            obtain ⟨hpp, hk⟩ := hh
            have hf := catF_fill ((List.range m).map fun j => (j * i.size, i.size)) (fun j => some (j * i.size, i.size)) (fun j x hx => by
              rw [List.getElem?_map] at hx
              cases hr : (List.range m)[j]? with
              | none => simp [hr] at hx
              | some q =>
                have : q = j := by
                  rw [List.getElem?_range] at hr
                  · exact (Option.some.inj hr).symm
                  · have := (List.getElem?_eq_some_iff.1 hr).1; simpa using this
                subst this; simpa [hr] using hx) _ _ 0 0 [] ps cs p rfl rfl (Nat.zero_le _) hc hpp
            simp only [List.nil_append, List.drop_zero] at hf
            have hsz : z.cells = ⟨cellsL z⟩ := by rw [← cells_toList]
            have hzz : (⟨cellsL z⟩ : Array Value).size = i.size := h3
            have hrow : ((Array.range (m * i.size)).map fun x => (⟨cellsL z⟩ : Array Value)[x % (⟨cellsL z⟩ : Array Value).size]!) = Builtin.zeroCells ⟨cellsL z⟩ m := by
              rw [← hzz]; rfl
            refine ⟨_, _, ?_, hk el⟩
            simp only [Instr.buildSlice, Sem.run_bind, run_und hu, Result.andThen_ok, run_sizeOf hi]
            have hn : ¬ (m * i.size > 2 ^ 24) := by omega
            simp only [hn, if_false]
            by_cases h0 : m * i.size = 0
            · have hm : m = 0 := by
                rcases Nat.mul_eq_zero.1 h0 with h | h
                · exact h
                · rw [h] at hb2; simp at hb2
              subst hm
              have hzc : Builtin.zeroCells ⟨cellsL z⟩ 0 = #[] := by simp [Builtin.zeroCells]
              rw [hzc] at hf
              have hr0 : ∀ f : Nat → Value, (Array.range (0 * i.size)).map f = #[] := fun f => by rw [Nat.zero_mul]; simp
              simp only [h0, if_true]
              simp only [Nat.zero_mul] at hr0
              rw [show ∀ z : Array Value, (⟨z.toList⟩ : Array Value) = z from fun z => rfl] at hf
              simp only [Sem.run_bind, Sem.run_pure, Result.andThen_ok, hr0]
              rw [hf]
              rfl
            · simp only [h0, if_false, Sem.run_bind, zeroValue, typeInfo, run_program, hi, hz, Result.andThen_ok, Sem.run_pure, hsz, hrow]
              rw [show ∀ z : Array Value, (⟨z.toList⟩ : Array Value) = z from fun z => rfl] at hf
              rw [hf]
              rfl

end
end Go.Den
