/- Soundness: the other operations that look at no memory. -/
import Derived.Test.YtidhimamegfdaaaDoorDen4
namespace Go.Den
set_option linter.unusedSimpArgs false
set_option linter.unusedVariables false
section
variable {P : Program} {K : VK} {w : World}

def BI (v : Option Value) (n : Option Int) : Prop := match v, n with
  | none, none => True
  | some v, some n => ∃ k, v = .int k n
  | _, _ => False

theorem Sub.evI {n : Nat} {e : Env} {a : Act} (h : Sub n e a) {x : Option Operand} {r : Option Int} (hx : evI e x = some r) : BI (x.map a.eval) r := by
  cases x with
  | none => simp only [Den.evI, Option.some.injEq] at hx; subst hx; trivial
  | some x =>
    simp only [Den.evI] at hx
    cases h1 : ev e x with
    | none => simp [h1] at hx
    | some v =>
      cases v <;> simp [h1] at hx
      subst hx
      exact ⟨_, by rw [h.eval h1]⟩

def bOk (len cap : Nat) (l h : Option Int) : Prop := match h with
  | none => (match l with | none => True | some l => 0 ≤ l ∧ l ≤ len)
  | some h => (0 ≤ h ∧ h ≤ cap) ∧ (match l with | none => True | some l => 0 ≤ l ∧ l ≤ h)
def bL (l : Option Int) : Nat := match l with | none => 0 | some l => l.toNat
def bH (h : Option Int) (len : Nat) : Nat := match h with | none => len | some h => h.toNat

theorem run_bounds (sl : Bool) {len cap : Nat} {lo hi : Option Value} {l h : Option Int} (hlo : BI lo l) (hhi : BI hi h)
    (ok : bOk len cap l h) (w : World) :
    (Instr.sliceBounds sl len cap lo hi none).run P w = .ok (bL l, bH h len, cap) w := by
  unfold bOk at ok
  cases h with
  | none =>
    cases hi with
    | some v => exact hhi.elim
    | none =>
      cases l with
      | none =>
        cases lo with
        | some v => exact hlo.elim
        | none => simp [Instr.sliceBounds, bL, bH]
      | some l =>
        cases lo with
        | none => exact hlo.elim
        | some v =>
          obtain ⟨k, rfl⟩ := hlo
          simp only at ok
          simp [Instr.sliceBounds, bL, bH, run_sliceBound ok]
  | some h =>
    cases hi with
    | none => exact hhi.elim
    | some v =>
      obtain ⟨k, rfl⟩ := hhi
      simp only at ok
      obtain ⟨ok1, ok2⟩ := ok
      cases l with
      | none =>
        cases lo with
        | some v => exact hlo.elim
        | none => simp [Instr.sliceBounds, bL, bH, run_sliceBound ok1]
      | some l =>
        cases lo with
        | none => exact hlo.elim
        | some v =>
          obtain ⟨k, rfl⟩ := hlo
          have ok3 : 0 ≤ l ∧ l ≤ (h.toNat : Nat) := ⟨ok2.1, by have := ok2.2; omega⟩
          simp [Instr.sliceBounds, bL, bH, run_sliceBound ok1, run_sliceBound ok3]

theorem slStr_out {s : ByteArray} {l h : Option Int} {K : ByteArray → WK} (hh : slStr s l h K w) :
    bOk s.size s.size l h ∧ K (s.extract (bL l) (bH h s.size)) w := by
  unfold bOk bL bH
  unfold slStr chk at hh
  cases h <;> cases l <;> simp only at hh ⊢
  · exact ⟨trivial, hh⟩
  · exact hh
  · exact ⟨⟨hh.1, trivial⟩, hh.2⟩
  · exact ⟨⟨hh.1, hh.2.1⟩, hh.2.2⟩

theorem slSl_out {b : Option Addr} {len cap size : Nat} {l h : Option Int} {K : Option Addr → Nat → Nat → WK} (hh : slSl b len cap size l h K w) :
    bOk len cap l h ∧ K (slAt b cap (bL l) size) (bH h len - bL l) (cap - bL l) w := by
  unfold bOk bL bH
  unfold slSl chk at hh
  cases h <;> cases l <;> simp only at hh ⊢
  · exact ⟨trivial, hh⟩
  · exact hh
  · exact ⟨⟨hh.1, trivial⟩, hh.2⟩
  · exact ⟨⟨hh.1, hh.2.1⟩, hh.2.2⟩

theorem run_sizeOf {t : TypeId} {i : TypeInfo} (h : P.info? t = some i) (w : World) : (sizeOf t).run P w = .ok i.size w := by simp [sizeOf, typeInfo, h]

theorem sliceDen_pv {t : TypeId} {x : Value} {lo hi : Option Value} {l h : Option Int} (hlo : BI lo l) (hhi : BI hi h) (hh : sliceDen P t x l h K w) :
    PV P (Instr.sliceAt t x lo hi none) w K := by
  unfold sliceDen at hh
  generalize hu : P.underlying t = u at hh
  split at hh
  · rename_i s
    obtain ⟨h1, h2⟩ := slStr_out hh
    refine ⟨_, fun w' => ?_, h2⟩
    simp [Instr.sliceAt, Instr.slice, underlying, hu, run_bounds false hlo hhi h1]
  · rename_i e b n c
    cases hi' : P.info? e with
    | none => simp only [hi', no] at hh
    | some i =>
      simp only [hi'] at hh
      obtain ⟨h1, h2⟩ := slSl_out hh
      refine ⟨_, fun w' => ?_, h2⟩
      simp only [Instr.sliceAt, Instr.slice, Sem.run_bind, run_und hu, Result.andThen_ok, run_bounds true hlo hhi h1, run_sizeOf hi', Sem.run_pure, slAt]
  · rename_i n e a
    cases hi' : P.info? e with
    | none => simp only [hi', no] at hh
    | some i =>
      simp only [hi'] at hh
      obtain ⟨h1, h2⟩ := slSl_out hh
      refine ⟨_, fun w' => ?_, h2⟩
      simp only [Instr.sliceAt, Sem.run_bind, run_und hu, Result.andThen_ok, Instr.sureAddr, Sem.run_pure, run_bounds false hlo hhi h1, run_sizeOf hi', slAt]
      split <;> rfl
  · exact hh.elim

theorem xT1_out {z v : Value} {K : VK} (h : xT1 z K v w) : K v w := by
  unfold xT1 at h
  split at h
  · obtain ⟨n, rfl, h⟩ := h; exact h
  · obtain ⟨n, rfl, h⟩ := h; exact h
  · obtain ⟨n, rfl, h⟩ := h; exact h
  · obtain ⟨n, rfl, h⟩ := h; exact h
  · obtain ⟨b, n, c, rfl, h⟩ := h; exact h
  · obtain ⟨cs, rfl, _, h⟩ := h; exact h
  · exact h

theorem xT_out {z v : Value} {K : VK} (h : xT z K v w) : K v w := by
  unfold xT at h
  split at h
  · rename_i zs
    generalize hz : zs.toList = l at h
    split at h
    · obtain ⟨rfl, h⟩ := h; exact h
    · obtain ⟨a, b, rfl, h⟩ := h
      have h1 := xT1_out (K := fun a => xT1 _ (fun b => K (Value.tuple ⟨[a, b]⟩)) b) h
      exact xT1_out (K := fun b => K (Value.tuple ⟨[a, b]⟩)) h1
    · obtain ⟨a, b, c, rfl, h⟩ := h
      have h1 := xT1_out (K := fun a => xT1 _ (fun b => xT1 _ (fun c => K (Value.tuple ⟨[a, b, c]⟩)) c) b) h
      have h2 := xT1_out (K := fun b => xT1 _ (fun c => K (Value.tuple ⟨[a, b, c]⟩)) c) h1
      exact xT1_out (K := fun c => K (Value.tuple ⟨[a, b, c]⟩)) h2
    · exact h.elim
  · exact xT1_out h

theorem indexAddrDen_pv {t : TypeId} {x i : Value} (hh : indexAddrDen P t x i K w) : PV P (Instr.indexAt t x i) w K := by
  unfold indexAddrDen at hh
  generalize hu : P.underlying t = u at hh
  split at hh
  · rename_i e b n c k j
    cases hi' : P.info? e with
    | none => simp only [hi', no] at hh
    | some i =>
      simp only [hi'] at hh
      obtain ⟨a, rfl, hb, hk⟩ := hh
      refine ⟨_, fun w' => ?_, hk⟩
      simp [Instr.indexAt, asIntOf, hb.1, hb.2, Sem.run_bind, underlying, hu, sizeOf, typeInfo, hi']
  · rename_i n e a k j
    cases hi' : P.info? e with
    | none => simp only [hi', no] at hh
    | some i =>
      simp only [hi'] at hh
      obtain ⟨hb, hk⟩ := hh
      refine ⟨_, fun w' => ?_, hk⟩
      simp [Instr.indexAt, asIntOf, hb.1, hb.2, Sem.run_bind, underlying, hu, sizeOf, typeInfo, hi', Instr.sureAddr]
  · exact hh.elim

theorem isAggD_run {t : TypeId} {d : TypeDesc} (h : P.underlying t = some d) (w : World) : (isAgg t).run P w = .ok (isAggD d) w := by
  simp only [isAgg, Sem.run_bind, run_und h, Result.andThen_ok, isAggD]
  split <;> simp_all

theorem run_part_agg {t : TypeId} {d : TypeDesc} {i : TypeInfo} (h : P.underlying t = some d) (hi : P.info? t = some i) (ha : isAggD d = true) (cs : Array Value) (off : Nat) (w : World) :
    (part t cs off).run P w = .ok (.agg ⟨(cs.toList.drop off).take i.size⟩) w := by
  simp only [part, Sem.run_bind, isAggD_run h, Result.andThen_ok, ha, if_true, run_sizeOf hi, Sem.run_pure]
  congr 3
  apply Array.ext'
  simp [List.take_drop]

theorem run_part_one {t : TypeId} {d : TypeDesc} (h : P.underlying t = some d) (ha : isAggD d = false) {cs : Array Value} {off : Nat} {v : Value} (hv : cs.toList[off]? = some v) (w : World) :
    (part t cs off).run P w = .ok v w := by
  have hv' : cs[off]? = some v := by simpa using hv
  simp [part, isAggD_run h, ha, hv']

theorem ofNat_str (s : ByteArray) (n : Nat) : s[n]? = s.data.toList[n]? := by
  by_cases h : n < s.size
  · rw [getElem?_pos s n h]
    have h2 : n < s.data.toList.length := by simpa using h
    rw [List.getElem?_eq_getElem h2]
    simp [ByteArray.getElem_eq_getElem_data]
  · rw [getElem?_neg s n h]
    rw [List.getElem?_eq_none]
    simp only [Array.length_toList]
    have : s.data.size = s.size := rfl
    omega

theorem indexDen_pv {t : TypeId} {x i : Value} (hh : indexDen P t x i K w) : PV P (Instr.index t x i) w K := by
  unfold indexDen at hh
  generalize hu : P.underlying t = u at hh
  split at hh
  · rename_i s k j
    obtain ⟨c, ⟨h0, hc⟩, hk⟩ := hh
    refine ⟨_, fun w' => ?_, hk⟩
    have hc' : s[j.toNat]? = some c := by rw [ofNat_str]; exact hc
    simp [Instr.index, asIntOf, underlying, hu, h0, hc']
  · rename_i n e cs k j
    cases hd : P.underlying e with
    | none => simp only [hd, no] at hh
    | some d =>
      cases hi' : P.info? e with
      | none => simp only [hd, hi', no] at hh
      | some i =>
        simp only [hd, hi'] at hh
        cases ha : isAggD d with
        | true =>
          simp only [ha, cond_true] at hh
          obtain ⟨hb, hk⟩ := hh
          refine ⟨_, fun w' => ?_, hk⟩
          simp [Instr.index, asIntOf, run_und hu, hb.1, hb.2, run_sizeOf hi', run_part_agg hd hi' ha]
        | false =>
          simp only [ha, cond_false] at hh
          cases hs : Nat.beq i.size 1 with
          | false => simp [hs, no] at hh
          | true =>
            have hs' : i.size = 1 := Nat.eq_of_beq_eq_true hs
            simp only [hs, cond_true] at hh
            cases hz : i.zero with
            | none => simp only [hz, no] at hh
            | some z =>
              simp only [hz] at hh
              obtain ⟨v, ⟨h0, h1, hv⟩, hk⟩ := hh
              refine ⟨v, fun w' => ?_, xT1_out hk⟩
              simp [Instr.index, asIntOf, run_und hu, h0, h1, run_sizeOf hi', hs', run_part_one hd ha hv]
  · exact hh.elim

theorem fieldDen_pv {t : TypeId} {x : Value} {f : Nat} (hh : fieldDen P t x f K w) : PV P (Instr.field t x f) w K := by
  unfold fieldDen at hh
  generalize hu : P.underlying t = u at hh
  split at hh
  · rename_i fs cs
    cases hf : fs[f]? with
    | none => simp only [hf, no] at hh
    | some fl =>
      simp only [hf] at hh
      cases hd : P.underlying fl.type with
      | none => simp only [hd, no] at hh
      | some d =>
        cases hi' : P.info? fl.type with
        | none => simp only [hd, hi', no] at hh
        | some i =>
          simp only [hd, hi'] at hh
          cases ha : isAggD d with
          | true =>
            simp only [ha, cond_true] at hh
            refine ⟨_, fun w' => ?_, hh⟩
            simp [Instr.field, run_und hu, hf, asAgg, run_part_agg hd hi' ha]
          | false =>
            simp only [ha, cond_false] at hh
            cases hz : i.zero with
            | none => simp only [hz, no] at hh
            | some z =>
              simp only [hz] at hh
              obtain ⟨v, hv, hk⟩ := hh
              refine ⟨v, fun w' => ?_, xT1_out hk⟩
              simp [Instr.field, run_und hu, hf, asAgg, run_part_one hd ha hv]
  · exact hh.elim

theorem fieldAddrDen_pv {t : TypeId} {x : Value} {f : Nat} (hh : fieldAddrDen P t x f K w) : PV P (Instr.fieldAt t x f) w K := by
  unfold fieldAddrDen at hh
  generalize hu : P.underlying t = u at hh
  split at hh
  · rename_i fs a
    cases hf : fs[f]? with
    | none => simp only [hf, no] at hh
    | some fl =>
      simp only [hf] at hh
      cases hi' : P.info? fl.type with
      | none => simp only [hi', no] at hh
      | some i =>
        simp only [hi'] at hh
        cases hs : Nat.beq i.size 0 with
        | true => simp [hs, no] at hh
        | false =>
          have hs' : i.size ≠ 0 := fun h => by simp [h] at hs
          simp only [hs, cond_false] at hh
          refine ⟨_, fun w' => ?_, hh⟩
          simp [Instr.fieldAt, run_und hu, hf, Instr.sureAddr, fieldPlace, run_sizeOf hi', hs']
  · exact hh.elim

theorem lenDen_pv {t ty : TypeId} {ts : Array TypeId} {x : Value} (ht : ts.toList = [t] ∨ ∃ r, ts.toList = t :: r) (hh : lenDen P t x K w) : PV P (Builtin.len_ ts ty #[x]) w K := by
  have h0 : ts[0]? = some t := by
    cases ts
    rcases ht with h | ⟨r, h⟩ <;> simp only at h <;> subst h <;> rfl
  unfold lenDen at hh
  generalize hu : P.underlying t = u at hh
  split at hh
  · exact ⟨_, fun w' => by simp [Builtin.len_, h0, run_und hu, goInt], hh⟩
  · exact ⟨_, fun w' => by simp [Builtin.len_, h0, run_und hu, goInt], hh⟩
  · exact ⟨_, fun w' => by simp [Builtin.len_, h0, run_und hu, goInt], hh⟩
  · exact hh.elim

theorem minsD_run {k : IntKind} : ∀ {x : Int} {l : List Value} {m : Int}, minsD x l = some m → ∀ w : World, (l.foldlM Builtin.min2 (.int k x)).run P w = .ok (.int k m) w
  | x, [], m, h, w => by simp only [minsD, Option.some.injEq] at h; subst h; rfl
  | x, .int j y :: r, m, h, w => by
    simp only [minsD] at h
    have := minsD_run (k := k) h w
    simp only [List.foldlM_cons, Sem.run_bind, Builtin.min2, Sem.run_pure, Result.andThen_ok]
    exact this
  | x, .bool _ :: _, m, h, w => by simp [minsD] at h
  | x, .float _ _ :: _, m, h, w => by simp [minsD] at h
  | x, .complex _ _ _ :: _, m, h, w => by simp [minsD] at h
  | x, .string _ :: _, m, h, w => by simp [minsD] at h
  | x, .pointer _ :: _, m, h, w => by simp [minsD] at h
  | x, .slice _ _ _ :: _, m, h, w => by simp [minsD] at h
  | x, .map _ :: _, m, h, w => by simp [minsD] at h
  | x, .chan _ :: _, m, h, w => by simp [minsD] at h
  | x, .func _ _ _ :: _, m, h, w => by simp [minsD] at h
  | x, .nilFunc :: _, m, h, w => by simp [minsD] at h
  | x, .iface _ _ :: _, m, h, w => by simp [minsD] at h
  | x, .nilIface :: _, m, h, w => by simp [minsD] at h
  | x, .agg _ :: _, m, h, w => by simp [minsD] at h
  | x, .tuple _ :: _, m, h, w => by simp [minsD] at h

theorem maxsD_run {k : IntKind} : ∀ {l : List Value} {x : Int} {m : Int}, maxsD x l = some m → ∀ w : World, (l.foldlM Builtin.max2 (.int k x)).run P w = .ok (.int k m) w := by
  intro l
  induction l with
  | nil => intro x m h w; simp only [maxsD, Option.some.injEq] at h; subst h; rfl
  | cons v r ih =>
    intro x m h w
    cases v <;> simp only [maxsD, reduceCtorEq] at h
    rename_i j y
    simp only [List.foldlM_cons, Sem.run_bind, Builtin.max2, Sem.run_pure, Result.andThen_ok]
    exact ih h w

end
end Go.Den
