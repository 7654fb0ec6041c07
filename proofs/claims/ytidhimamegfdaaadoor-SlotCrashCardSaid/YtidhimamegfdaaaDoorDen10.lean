/- Soundness: operations, under their guards, in the order of the text. -/
import Derived.Test.YtidhimamegfdaaaDoorDen9
namespace Go.Den
set_option linter.unusedSimpArgs false
set_option linter.unusedVariables false
section
variable {P : Program} {K : VK} {w : World} {T : Tab} {E : Eqs} {n : Nat} {e : Env} {a : Act}

theorem Pure.of_eq {s : Sem Next} (v : Value) (h : s = pure (.value v)) (hk : K v w) : Pure P s w K := ⟨v, fun w' => by rw [h]; rfl, hk⟩

theorem callDen_pure (hs : Sub n e a) {c : Call} {ty : TypeId} (hc : cls P (.call c) = 0) (h : callDen P T e c ty K w) : Pure P (do let d ← resolve a.eval c ty; invoke d.target d.args) w K := by
  obtain ⟨callee, args, ats⟩ := c
  unfold callDen at h
  cases hargs : evs e args.toList with
  | none => simp only [hargs, no] at h
  | some vs =>
    simp only [hargs] at h
    have hmap := hs.evalsA hargs
    cases callee with
    | invoke r m => simp only [no] at h
    | value f => simp [cls] at hc
    | builtin b =>
      simp only at h
      have base : ∀ s : Sem Value, (∀ cs, builtin b ats ty cs ⟨vs⟩ = (do pure (.value (← s)))) → PV P s w K → Pure P (do let d ← resolve a.eval ⟨.builtin b, args, ats⟩ ty; invoke d.target d.args) w K := by
        intro s hbs hsv
        have := PV.pure hsv
        have e1 : (do let d ← resolve a.eval ⟨.builtin b, args, ats⟩ ty; invoke d.target d.args : Sem Next) = (do pure (.value (← s))) := by
          rw [← hbs (args.map fun | .const _ => true | _ => false)]
          simp only [resolve, hmap, invoke]
          rfl
        rw [e1]; exact this
      unfold builtinDen at h
      generalize hts : ats.toList = ts at h
      split at h
      · rename_i t r x
        exact base (Builtin.len_ ats ty #[x]) (fun cs => rfl) (lenDen_pv (t := t) (.inr ⟨r, hts⟩) h)
      · rename_i k x r
        cases hm : minsD x r with
        | none => simp only [hm, no] at h
        | some m =>
          simp only [hm] at h
          exact base (Builtin.min_ ats ty ⟨.int k x :: r⟩) (fun cs => rfl) ⟨_, minsD_run hm, h⟩
      · rename_i k x r
        cases hm : maxsD x r with
        | none => simp only [hm, no] at h
        | some m =>
          simp only [hm] at h
          exact base (Builtin.max_ ats ty ⟨.int k x :: r⟩) (fun cs => rfl) ⟨_, maxsD_run hm, h⟩
      · simp [cls] at hc
      · exact h.elim

theorem opDen_pure (hE : EqsOk P E) (hs : Sub n e a) {o : Oper} (hc : cls P o.op = 0) (h : opDen P T E e o.op o.type K w) : Pure P (execOp a.eval o) w K := by
  obtain ⟨dst, op, ty, pos, after, guard⟩ := o
  simp only at hc h
  cases op <;> simp [cls] at hc <;> simp only [opDen] at h
  case move x =>
    cases hx : ev e x with
    | none => simp only [hx, no] at h
    | some v => simp only [hx] at h; exact .of_eq v (by simp only [execOp, hs.eval hx]) h
  case assign x =>
    cases hx : ev e x with
    | none => simp only [hx, no] at h
    | some v => simp only [hx] at h; exact .of_eq v (by simp only [execOp, hs.eval hx]) h
  case pick c x y =>
    cases hx : ev e c with
    | none => simp only [hx, no] at h
    | some v =>
      cases v <;> simp only [hx, no] at h
      rename_i b
      cases b with
      | true =>
        simp only [br] at h
        cases hy : ev e x with
        | none => simp only [hy, no] at h
        | some u => simp only [hy] at h; exact .of_eq u (by simp only [execOp, hs.eval hx, hs.eval hy, asBool, pure_bind, if_true]) h
      | false =>
        simp only [br] at h
        cases hy : ev e y with
        | none => simp only [hy, no] at h
        | some u => simp only [hy] at h; exact .of_eq u (by simp only [execOp, hs.eval hx, hs.eval hy, asBool, pure_bind, Bool.false_eq_true, if_false]) h
  case nilCheck x =>
    cases hx : ev e x with
    | none => simp only [hx, no] at h
    | some v =>
      cases v <;> simp only [hx, no] at h
      rename_i p
      cases p with
      | none => exact h.elim
      | some p => simp only [nn] at h; exact .of_eq _ (by simp only [execOp, hs.eval hx]) h
  case binOp op t x y u =>
    cases hx : ev e x with
    | none => simp only [hx, no] at h
    | some v =>
      cases hy : ev e y with
      | none => simp only [hx, hy, no] at h
      | some u =>
        simp only [hx, hy] at h
        simp only [execOp, hs.eval hx, hs.eval hy]
        exact PV.pure (binDen_pv hE h)
  case unOp op t x =>
    cases hx : ev e x with
    | none => simp only [hx, no] at h
    | some v =>
      simp only [hx] at h
      simp only [execOp, hs.eval hx]
      exact PV.pure (unDen_pv h)
  case makeFunc fn first cap =>
    cases hx : evs e first.toList with
    | none => simp only [hx, no] at h
    | some f =>
      cases hy : evs e cap.toList with
      | none => simp only [hx, hy, no] at h
      | some c =>
        simp only [hx, hy] at h
        simp only [execOp, hs.evalsA hx, hs.evalsA hy]
        exact PV.pure ⟨_, fun w' => rfl, h⟩
  case slice t x lo hi mx =>
    cases mx with
    | some _ => simp only [no] at h
    | none =>
      simp only at h
      cases hx : ev e x with
      | none => simp only [hx, no] at h
      | some v =>
        cases hl : evI e lo with
        | none => simp only [hx, hl, no] at h
        | some l =>
          cases hh : evI e hi with
          | none => simp only [hx, hl, hh, no] at h
          | some u =>
            simp only [hx, hl, hh] at h
            simp only [execOp, hs.eval hx]
            exact PV.pure (sliceDen_pv (hs.evI hl) (hs.evI hh) h)
  case fieldAddr t x f =>
    cases hx : ev e x with
    | none => simp only [hx, no] at h
    | some v =>
      simp only [hx] at h
      simp only [execOp, hs.eval hx]
      exact PV.pure (fieldAddrDen_pv h)
  case field t x f =>
    cases hx : ev e x with
    | none => simp only [hx, no] at h
    | some v =>
      simp only [hx] at h
      simp only [execOp, hs.eval hx]
      exact PV.pure (fieldDen_pv h)
  case indexAddr t x i =>
    cases hx : ev e x with
    | none => simp only [hx, no] at h
    | some v =>
      cases hy : ev e i with
      | none => simp only [hx, hy, no] at h
      | some j =>
        simp only [hx, hy] at h
        simp only [execOp, hs.eval hx, hs.eval hy]
        exact PV.pure (indexAddrDen_pv h)
  case index t x i =>
    cases hx : ev e x with
    | none => simp only [hx, no] at h
    | some v =>
      cases hy : ev e i with
      | none => simp only [hx, hy, no] at h
      | some j =>
        simp only [hx, hy] at h
        simp only [execOp, hs.eval hx, hs.eval hy]
        exact PV.pure (indexDen_pv h)
  case extract x i =>
    cases hx : ev e x with
    | none => simp only [hx, no] at h
    | some v =>
      cases v <;> simp only [hx, no] at h
      rename_i vs
      cases hv : vs[i]? with
      | none => simp only [hv, no] at h
      | some u =>
        simp only [hv] at h
        simp only [execOp, hs.eval hx]
        exact PV.pure ⟨u, fun w' => by simp [Instr.extract, hv], h⟩
  case build t ps =>
    cases hx : evPs e ps.toList with
    | none => simp only [hx, no] at h
    | some l =>
      simp only [hx] at h
      have hm : (ps.map fun (i, x) => (i, a.eval x)) = ⟨l⟩ := by
        have := hs.evalPs hx
        apply Array.ext'
        rw [Array.toList_map]
        exact this
      simp only [execOp, hm]
      exact PV.pure (buildDen_pv h)
  case convert s d x =>
    cases hx : ev e x with
    | none => simp only [hx, no] at h
    | some v =>
      simp only [hx] at h
      simp only [execOp, hs.eval hx]
      cases hd : P.underlying d with
      | none => simp [hd] at hc
      | some dd =>
        cases dd <;> simp [hd] at hc
        unfold convDen at h
        cases hsd : P.underlying s with
        | none => simp only [hsd, no] at h
        | some sd =>
          simp only [hsd, hd] at h
          cases v <;> simp only [no] at h
          exact PV.pure ⟨_, fun w' => run_convert_int hsd hd _ _ w', h⟩
  case call c =>
    simp only [execOp]
    exact callDen_pure hs (by simp only [cls]; exact hc) h

theorem opDen_to (hE : EqsOk P E) (hT : TabOk P T) (hs : Sub n e a) {o : Oper} (h : opDen P T E e o.op o.type K w) : To P (execOp a.eval o) w K := by
  by_cases hc : cls P o.op = 0
  · exact (opDen_pure hE hs hc h).to
  obtain ⟨dst, op, ty, pos, after, guard⟩ := o
  simp only at hc h
  cases op <;> simp [cls] at hc <;> simp only [opDen, no] at h
  case alloc t =>
    cases hz : zeroOf P t with
    | none => simp only [hz, no] at h
    | some z =>
      simp only [hz] at h
      cases hsf : selfFirst P t with
      | true => rw [hsf] at h; exact SV.to (allocT_sv hz h)
      | false => rw [hsf] at h; exact SV.to (alloc_sv hz h)
  case box t x =>
    cases hx : ev e x with
    | none => simp only [hx, no] at h
    | some v =>
      simp only [hx] at h
      simp only [execOp, hs.eval hx]
      exact SV.to (mk_sv h v rfl)
  case buildSlice t m ps =>
    cases hx : evPs e ps.toList with
    | none => simp only [hx, no] at h
    | some l =>
      simp only [hx] at h
      have hm : (ps.map fun (i, x) => (i, a.eval x)) = ⟨l⟩ := by
        have := hs.evalPs hx
        apply Array.ext'
        rw [Array.toList_map]
        exact this
      simp only [execOp, hm]
      exact SV.to (buildSlDen_sv h)
  case load t x =>
    cases hx : ev e x with
    | none => simp only [hx, no] at h
    | some v =>
      cases v <;> simp only [hx, no] at h
      rename_i p
      cases p with
      | none => exact h.elim
      | some p =>
        simp only at h
        simp only [execOp, hs.eval hx]
        obtain ⟨v, cs, hH, hr, hk⟩ := loadDen_spec h
        exact SV.to ⟨v, w, by simp [Instr.loadAt, Instr.sureAddr, hr w hH], hk⟩
  case store t x y =>
    cases hx : ev e x with
    | none => simp only [hx, no] at h
    | some v =>
      cases hy : ev e y with
      | none => cases v <;> simp only [hx, hy, no] at h
      | some u =>
        cases v <;> simp only [hx, hy, no] at h
        rename_i p
        cases p with
        | none => exact h.elim
        | some p =>
          simp only at h
          simp only [execOp, hs.eval hx, hs.eval hy]
          obtain ⟨w', hr, hk⟩ := storeDen_spec h
          exact .inr (.inl ⟨w', by simp [Instr.storeAt, Instr.sureAddr, hr], hk⟩)
  case convert s d x =>
    cases hx : ev e x with
    | none => simp only [hx, no] at h
    | some v =>
      simp only [hx] at h
      simp only [execOp, hs.eval hx]
      exact SV.to (convDen_sv h)
  case makeSlice t m c =>
    cases hu : P.underlying t with
    | none => simp only [hu, no] at h
    | some d =>
      cases hx : ev e m with
      | none => cases d <;> simp only [hu, hx, no] at h
      | some mv =>
        cases hy : ev e c with
        | none => cases d <;> simp only [hu, hx, hy, no] at h
        | some cv =>
          cases d <;> simp only [hu, hx, hy, no] at h
          cases mv <;> (try simp only [no] at h)
          cases cv <;> simp only [no] at h
          rename_i el k1 mi k2 ci
          cases hi : P.info? el with
          | none => simp only [hi, no] at h
          | some i =>
            simp only [hi] at h
            cases hz : i.zero with
            | none => simp only [hz, no] at h
            | some z =>
              simp only [hz] at h
              cases hb : (Nat.blt 0 i.size && Nat.beq (cellsL z).length i.size) with
              | false => simp only [hb, cond_false, no] at h
              | true =>
                simp only [hb, cond_true] at h
                simp only [Bool.and_eq_true] at hb
                simp only [execOp, hs.eval hx, hs.eval hy]
                exact SV.to (mkSl_sv hu hi hz (Nat.eq_of_beq_eq_true hb.2) h)
  case call c =>
    simp only [execOp]
    exact callDen_to hT hs h

end
end Go.Den
