/- Soundness: operations that look at no memory. -/
import Derived.Test.YtidhimamegfdaaaDoorDen3
import Derived.Tactics
import Derived.WalkKit
namespace Go.Den
set_option linter.unusedSimpArgs false
set_option linter.unusedVariables false

structure Sub (n : Nat) (e : Env) (a : Act) : Prop where
  size : a.tmps.size = n
  defers : a.defers = []
  get : ∀ t v, lk e t = some v → a.tmps[t]? = some v

theorem Sub.eval {n : Nat} {e : Env} {a : Act} (h : Sub n e a) {x : Operand} {v : Value} (hx : ev e x = some v) : a.eval x = v := by
  cases x with
  | tmp t => simp only [ev] at hx; simp [Act.eval, h.get t v hx]
  | const u => simp only [ev] at hx; cases hx; rfl
  | global g => simp only [ev] at hx; cases hx; rfl
  | func f => simp only [ev] at hx; cases hx; rfl

theorem Sub.evals {n : Nat} {e : Env} {a : Act} (h : Sub n e a) : ∀ {xs : List Operand} {vs : List Value}, evs e xs = some vs → xs.map a.eval = vs
  | [], vs, hx => by simp only [evs] at hx; cases hx; rfl
  | x :: xs, vs, hx => by
    simp only [evs] at hx
    cases h1 : ev e x with
    | none => simp [h1] at hx
    | some v =>
      cases h2 : evs e xs with
      | none => simp [h1, h2] at hx
      | some us =>
        simp only [h1, h2, Option.some.injEq] at hx
        subst hx
        simp only [List.map_cons, h.eval h1, h.evals h2]

theorem Sub.evalsA {n : Nat} {e : Env} {a : Act} (h : Sub n e a) {xs : Array Operand} {vs : List Value} (hx : evs e xs.toList = some vs) : xs.map a.eval = ⟨vs⟩ := by
  have := h.evals hx
  rw [← Array.toList_map] at this
  cases hh : xs.map a.eval
  simp only [hh] at this
  subst this
  rfl

theorem Sub.evalPs {n : Nat} {e : Env} {a : Act} (h : Sub n e a) : ∀ {xs : List (Nat × Operand)} {vs : List (Nat × Value)}, evPs e xs = some vs → xs.map (fun p => (p.1, a.eval p.2)) = vs
  | [], vs, hx => by simp only [evPs] at hx; cases hx; rfl
  | (i, x) :: xs, vs, hx => by
    simp only [evPs] at hx
    cases h1 : ev e x with
    | none => simp [h1] at hx
    | some v =>
      cases h2 : evPs e xs with
      | none => simp [h1, h2] at hx
      | some us =>
        simp only [h1, h2, Option.some.injEq] at hx
        subst hx
        simp only [List.map_cons, h.eval h1, h.evalPs h2]

theorem lk_cons_same (e : Env) (d : Nat) (v : Value) : lk ((d, v) :: e) d = some v := by simp [lk]
theorem lk_cons (e : Env) (d t : Nat) (v : Value) : lk ((d, v) :: e) t = if d = t then some v else lk e t := by
  simp only [lk]
  by_cases h : d = t
  · subst h; simp
  · have h' : d.beq t = false := by
      cases hh : d.beq t with
      | true => exact absurd (Nat.eq_of_beq_eq_true hh) h
      | false => rfl
    simp [h, h']

theorem Sub.put {n : Nat} {e : Env} {a : Act} (h : Sub n e a) {d : Nat} (hd : d < n) (v : Value) : Sub n ((d, v) :: e) (a.put (some d) v) := by
  refine ⟨by simp [Act.put, h.size], by simp [Act.put, h.defers], fun t u ht => ?_⟩
  rw [lk_cons] at ht
  simp only [Act.put]
  split at ht
  · rename_i hdt; subst hdt; cases ht
    rw [Array.getElem?_setIfInBounds_self]
    simp [h.size, hd]
  · rename_i hdt
    rw [Array.getElem?_setIfInBounds_ne hdt]
    exact h.get t u ht

/-- A value that is held already may be told again. -/
theorem Sub.again {n : Nat} {e : Env} {a : Act} (h : Sub n e a) {d : Nat} {v : Value} (hd : lk e d = some v) : Sub n ((d, v) :: e) a := by
  refine ⟨h.size, h.defers, fun t u ht => ?_⟩
  rw [lk_cons] at ht
  split at ht
  · rename_i hdt; subst hdt; cases ht; exact h.get _ _ hd
  · exact h.get t u ht

/-- What a run comes to. -/
def To (P : Program) (s : Sem Next) (w : World) (K : VK) : Prop :=
  (∃ v w', s.run P w = .ok (.value v) w' ∧ K v w') ∨ (∃ w', s.run P w = .ok .skip w' ∧ K undef w') ∨
  (∃ g args w', s.run P w = .ok (.enter g args) w' ∧ Calls P g args w' fun e w'' => ∃ v, e = .returned v ∧ K v w'')

/-- It comes to a value, in every world, and leaves the world as it is. -/
def Pure (P : Program) (s : Sem Next) (w : World) (K : VK) : Prop := ∃ v, (∀ w', s.run P w' = .ok (.value v) w') ∧ K v w

theorem Pure.to {P : Program} {s : Sem Next} {w : World} {K : VK} (h : Pure P s w K) : To P s w K :=
  let ⟨v, hr, hk⟩ := h; .inl ⟨v, w, hr w, hk⟩

/-- One value more. -/
def PV (P : Program) (s : Sem Value) (w : World) (K : VK) : Prop := ∃ v, (∀ w', s.run P w' = .ok v w') ∧ K v w

theorem PV.pure {P : Program} {s : Sem Value} {w : World} {K : VK} (h : PV P s w K) : Pure P (do pure (.value (← s))) w K := by
  obtain ⟨v, hr, hk⟩ := h
  exact ⟨v, fun w' => by simp [hr w'], hk⟩

theorem PV.mk {P : Program} {s : Sem Value} {w : World} {K : VK} (v : Value) (hr : ∀ w', s.run P w' = .ok v w') (hk : K v w) : PV P s w K := ⟨v, hr, hk⟩

theorem chk_out {p : Prop} {K : WK} {w : World} (h : chk p K w) : p ∧ K w := h

section
variable {P : Program} {K : VK} {w : World}

theorem run_und {t : TypeId} {d : TypeDesc} (h : P.underlying t = some d) (w : World) : (underlying t).run P w = .ok d w := by simp [underlying, h]

theorem intDen_pv {op : BinOp} {k : IntKind} {x y : Int} {t : TypeId} (h : intDen op k x y K w) : PV P (binOp op t (.int k x) (.int k y)) w K := by
  cases op <;> simp only [intDen, chk] at h <;> first
    | exact ⟨_, fun w' => by simp [binOp, Op.intArith, Op.intBits, Op.intCmp, isum]; done, h⟩
    | (obtain ⟨h1, h2⟩ := h
       refine ⟨_, fun w' => ?_, h2⟩
       simp only [binOp, Op.intDiv, Op.shift, shl, shr, ne_eq, not_true, if_false]
       rw [if_neg (by omega)]
       rfl)

theorem strDen_pv {op : BinOp} {x y : ByteArray} {t : TypeId} (h : strDen op x y K w) : PV P (binOp op t (.string x) (.string y)) w K := by
  cases op <;> simp only [strDen, chk, no] at h
  case add =>
    refine ⟨_, fun w' => ?_, h.2⟩
    have h1 : ¬ (((x.size + y.size : Nat) : Int) > IntKind.i64.max) := by
      have := h.1
      have e : IntKind.i64.max = 9223372036854775807 := by decide
      rw [e]; omega
    simp only [binOp, Op.stringOp]
    rw [if_neg h1]
    rfl
  case eql => exact ⟨_, fun w' => rfl, h⟩
  case neq => exact ⟨_, fun w' => rfl, h⟩

theorem eqGuard_pv {op : BinOp} {t : TypeId} {x y : Operand} {a b : Value} (hn : (a = .nilIface → False)) (hg : ∀ xs ys, a = .agg xs → b = .agg ys → P.eqGuardType P.depth t = false) (w : World) :
    (eqGuard op t x y a b).run P w = .ok () w := by
  cases op <;> try rfl
  all_goals
    cases a <;> cases b <;> first
      | rfl
      | exact (hn rfl).elim
      | (rename_i xs ys
         have := hg _ _ rfl rfl
         simp [eqGuard, this])

theorem run_eq_ptr {t d : TypeId} (h : P.underlying t = some (.pointer d)) (p : Option Addr) (w : World) : (Op.equal t (.pointer p) (.pointer none)).run P w = .ok p.isNone w := by
  show (Op.equalIn (9999 + 1) t _ _).run P w = _
  unfold Op.equalIn
  cases p <;> simp [underlying, h]

theorem run_eq_sl {t d : TypeId} (h : P.underlying t = some (.slice d)) (p : Option Addr) (n c m e : Nat) (w : World) : (Op.equal t (.slice p n c) (.slice none m e)).run P w = .ok p.isNone w := by
  show (Op.equalIn (9999 + 1) t _ _).run P w = _
  unfold Op.equalIn
  cases p <;> simp [underlying, h]

theorem run_eq_bool {t : TypeId} (h : P.underlying t = some .bool) (a b : Bool) (w : World) : (Op.equal t (.bool a) (.bool b)).run P w = .ok (a == b) w := by
  show (Op.equalIn (9999 + 1) t _ _).run P w = _
  unfold Op.equalIn
  simp [underlying, h]

/-- What is told of the struct types that are compared. -/
def EqsOk (P : Program) (E : Eqs) : Prop := ∀ t zs, eqsOf E t = some zs → P.eqGuardType P.depth t = false ∧
  ∀ xs ys, fitsL zs xs = true → fitsL zs ys = true → ∀ w : World, (Op.equal t (.agg ⟨xs⟩) (.agg ⟨ys⟩)).run P w = .ok (eqCells xs ys) w

theorem binDen_pv {E : Eqs} (hE : EqsOk P E) {op : BinOp} {t : TypeId} {x y : Operand} {a b : Value} (h : binDen P E op t a b K w) : PV P (do eqGuard op t x y a b; binOp op t a b) w K := by
  have main : (a = .nilIface → False) → (∀ xs ys, a = .agg xs → b = .agg ys → P.eqGuardType P.depth t = false) → PV P (binOp op t a b) w K → PV P (do eqGuard op t x y a b; binOp op t a b) w K := by
    intro h1 h2 ⟨v, hv, hk⟩
    refine ⟨v, fun w' => ?_, hk⟩
    rw [Sem.run_bind, eqGuard_pv h1 h2]
    exact hv w'
  unfold binDen at h
  split at h
  · refine main (by simp) (by simp) ?_
    split at h
    · exact intDen_pv (t := t) h
    · exact intDen_pv (t := t) h
    · rename_i k a k' b op' _ _
      by_cases hk : k = k'
      · subst hk; simp only [decide_true, cond_true] at h; exact intDen_pv h
      · simp [hk, no] at h
  · exact main (by simp) (by simp) (strDen_pv h)
  · refine main (by simp) (by simp) ?_
    cases hu : P.underlying t with
    | none => simp only [hu, no] at h
    | some d =>
      cases d <;> cases op <;> simp only [hu, no] at h <;> exact ⟨_, fun w' => by simp [binOp, run_eq_bool hu], h⟩
  · refine main (by simp) (by simp) ?_
    cases hu : P.underlying t with
    | none => simp only [hu, no] at h
    | some d =>
      cases d <;> cases op <;> simp only [hu, no] at h <;> exact ⟨_, fun w' => by simp [binOp, run_eq_ptr hu], h⟩
  · refine main (by simp) (by simp) ?_
    cases hu : P.underlying t with
    | none => simp only [hu, no] at h
    | some d =>
      cases d <;> cases op <;> simp only [hu, no] at h <;> exact ⟨_, fun w' => by simp [binOp, run_eq_sl hu], h⟩
  · rename_i xs ys
    cases he : eqsOf E t with
    | none => simp only [he, no] at h
    | some zs =>
      obtain ⟨hg, heq⟩ := hE t zs he
      cases op <;> simp only [he, no] at h <;> (
        obtain ⟨⟨h1, h2⟩, hk⟩ := h
        refine main (by simp) (fun _ _ _ _ => hg) ⟨_, fun w' => ?_, hk⟩
        have hr := heq _ _ h1 h2 w'
        rw [show ∀ z : Array Value, (⟨z.toList⟩ : Array Value) = z from fun z => rfl, show ∀ z : Array Value, (⟨z.toList⟩ : Array Value) = z from fun z => rfl] at hr
        simp only [binOp, Sem.run_bind]
        rw [hr]; rfl)
  · exact h.elim

theorem unDen_pv {op : UnOp} {a : Value} (h : unDen op a K w) : PV P (Op.unary op a) w K := by
  unfold unDen at h
  split at h
  · exact ⟨_, fun w' => rfl, h⟩
  · exact ⟨_, fun w' => rfl, h⟩
  · exact ⟨_, fun w' => rfl, h⟩
  · exact h.elim

theorem run_convert_int {s d : TypeId} {sd : TypeDesc} {k : IntKind} (hs : P.underlying s = some sd) (hd : P.underlying d = some (.int k)) (j : IntKind) (n : Int) (w : World) :
    (convert s d (.int j n)).run P w = .ok (.int k (k.wrap n)) w := by
  simp [convert, underlying, hs, hd, Conv.intToInt]

theorem run_sliceBound {x : Int} {y : Nat} {code : BoundsCode} (h : 0 ≤ x ∧ x ≤ y) (k : IntKind) (w : World) : (Instr.sliceBound (.int k x) y code).run P w = .ok x.toNat w := by
  simp [Instr.sliceBound, asIntOf, h.1, h.2]

end
end Go.Den
