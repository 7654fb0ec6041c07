/- Structs of whole numbers, compared by '==': at the second seat's program. -/
import Derived.Test.YtidhimamegfdaaaDoorDenB
import Derived.Laws.StructEq
import Derived.Test.YtidhimamegfdaaaDoorProg
namespace Go.Proofs.YtidhimamegfdaaaDoor
open Go.Den Go.RowKit
set_option maxRecDepth 100000
set_option linter.unusedSimpArgs false
set_option linter.unusedVariables false

/-- All fields are whole numbers, one cell each. -/
def intFs (P : Program) : Nat → List Field → Bool
  | _, [] => true
  | o, f :: r => (f.name != "_") && Nat.beq f.offset o && (match P.underlying f.type with | some (.int .i64) => true | _ => false) && intFs P (o + 1) r

theorem fits_int {v : Value} (h : fits (.int .i64 0) v = true) : ∃ n, v = .int .i64 n := by
  cases v <;> simp [fits] at h
  rename_i k n
  subst h
  exact ⟨n, rfl⟩

theorem eqFs_ints {P : Program} {d : Nat} {w : World} : ∀ (fs : List Field) (o : Nat) (xs ys : List Value) (pre pre' : List Value), pre.length = o → pre'.length = o → intFs P o fs = true →
    fitsL (List.replicate fs.length (.int .i64 0)) xs = true → fitsL (List.replicate fs.length (.int .i64 0)) ys = true →
    (Op.eqFields (d + 1) ⟨pre ++ xs⟩ ⟨pre' ++ ys⟩ fs).run P w = .ok (eqCells xs ys) w
  | [], o, xs, ys, pre, pre', _, _, _, hx, hy => by
    cases xs <;> cases ys <;> simp [fitsL] at hx hy
    simp [Op.eqFields, eqCells]
  | f :: fs, o, xs, ys, pre, pre', hp, hp', hf, hx, hy => by
    cases xs with
    | nil => simp [fitsL] at hx
    | cons x xs =>
    cases ys with
    | nil => simp [fitsL] at hy
    | cons y ys =>
    simp only [List.length_cons, List.replicate_succ, fitsL, Bool.and_eq_true] at hx hy
    obtain ⟨a, rfl⟩ := fits_int hx.1
    obtain ⟨b, rfl⟩ := fits_int hy.1
    simp only [intFs, Bool.and_eq_true] at hf
    obtain ⟨⟨⟨hn, ho⟩, hu⟩, hr⟩ := hf
    have hn' : f.name ≠ "_" := by simpa using hn
    have ho' : f.offset = o := Nat.eq_of_beq_eq_true ho
    have hu' : P.underlying f.type = some (.int .i64) := by
      split at hu
      · assumption
      · cases hu
    have hpx : (part f.type (⟨pre ++ (Value.int .i64 a :: xs)⟩ : Array Value) f.offset).run P w = .ok (.int .i64 a) w := by
      simp [part, isAgg, underlying, hu', ho', hp]
    have hpy : (part f.type (⟨pre' ++ (Value.int .i64 b :: ys)⟩ : Array Value) f.offset).run P w = .ok (.int .i64 b) w := by
      simp [part, isAgg, underlying, hu', ho', hp']
    have ih := eqFs_ints (P := P) (d := d) (w := w) fs (o + 1) xs ys (pre ++ [.int .i64 a]) (pre' ++ [.int .i64 b]) (by simp [hp]) (by simp [hp']) hr hx.2 hy.2
    simp only [List.append_assoc, List.singleton_append] at ih
    rw [Op.eqFields]
    simp only [if_pos hn', Sem.run_bind, hpx, hpy, run_equalIn_int w d f.type .i64 .i64 a b hu', Result.andThen_ok]
    simp only [eqCells, eqCell]
    cases hab : (a == b)
    · simp
    · simpa using ih

theorem eq_ints {P : Program} {t : TypeId} {fs : Array Field} (hu : P.underlying t = some (.struct fs)) (hp : P.stoodInHeld t = false) (hf : intFs P 0 fs.toList = true) (xs ys : List Value)
    (hx : fitsL (List.replicate fs.toList.length (.int .i64 0)) xs = true) (hy : fitsL (List.replicate fs.toList.length (.int .i64 0)) ys = true) (w : World) : (Op.equal t (.agg ⟨xs⟩) (.agg ⟨ys⟩)).run P w = .ok (eqCells xs ys) w := by
  have hfs : P.fieldsOf t = fs := by simp [Program.fieldsOf, hu]
  show (Op.equalIn Op.maxDepth t (.agg ⟨xs⟩) (.agg ⟨ys⟩)).run P w = _
  have hd : Op.maxDepth = (Op.maxDepth - 2) + 1 + 1 := by decide
  rw [hd, run_equalIn_struct (P := P) w _ t ⟨xs⟩ ⟨ys⟩ (by rw [hfs]; exact hu) hp, hfs]
  have := eqFs_ints (P := P) (d := Op.maxDepth - 2) (w := w) fs.toList 0 xs ys [] [] rfl rfl hf hx hy
  simpa using this

def eqs : Eqs := [(33, [.int .i64 0, .int .i64 0, .int .i64 0, .int .i64 0, .int .i64 0]), (53, [.int .i64 0, .int .i64 0, .int .i64 0, .int .i64 0])]

theorem eqsOk : EqsOk Tryd.prog eqs := fun t zs h => by
  unfold eqs eqsOf at h
  cases h33 : Nat.beq 33 t with
  | true =>
    rw [h33] at h
    have ht : 33 = t := Nat.eq_of_beq_eq_true h33
    subst ht
    cases h
    exact ⟨by kernel_rfl, fun xs ys hx hy w => eq_ints Tryd.underlying33 (by kernel_rfl) (by kernel_rfl) xs ys hx hy w⟩
  | false =>
    rw [h33] at h
    unfold eqsOf at h
    cases h53 : Nat.beq 53 t with
    | true =>
      rw [h53] at h
      have ht : 53 = t := Nat.eq_of_beq_eq_true h53
      subst ht
      cases h
      exact ⟨by kernel_rfl, fun xs ys hx hy w => eq_ints Tryd.underlying53 (by kernel_rfl) (by kernel_rfl) xs ys hx hy w⟩
    | false =>
      rw [h53] at h
      simp [eqsOf] at h
end Go.Proofs.YtidhimamegfdaaaDoor
