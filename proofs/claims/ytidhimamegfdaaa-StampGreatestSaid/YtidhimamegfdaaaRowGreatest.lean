/- The row of the law StampGreatest, for every input: it returns true, and what it was given reads as before. -/
import Derived.Test.YtidhimamegfdaaaTransE
import Derived.Test.YtidhimamegfdaaaStGreatest
import Derived.Test.YtidhimamegfdaaaRows
import Derived.WalkKit
import Derived.ProofKit
import Derived.OpenShut
import Derived.ShutString
import Derived.ChangeOld
import Derived.Below
import Derived.SizedLaws
namespace Go.Proofs.Ytidhimamegfdaaa.stampGreatest
open Go.ChangeShapes Go.WideShapes Go.ChangeAt Go.RowKit Go.Den Go.Sep Go.Prog
open Go.ChangeMaps (open_string shut_string)
set_option linter.unusedVariables false
set_option linter.unusedSimpArgs false
set_option maxRecDepth 100000
theorem own : ownKnob Try.prog.godebug = none := by kernel_rfl
theorem laidOut : laidOutB Try.prog = true := by kernel_rfl
theorem lifted (os : Os) (started : os.Started) (H : Type) (enc : TypeId × Value → H) :
    ReturnsInHanded {} Try.checked os 9 .any (Rows.stampGreatestSpec.pre6 enc Try.prog Try.f9 Rows.stampGreatestRow.domain false) (Rows.stampGreatestSpec.post enc Try.prog Try.f9 false true false false) := by
  refine returnsInHanded_of_change_sized (C := Try.checked) own started (by kernel_rfl) Try.func9
    (ChangeSpec.witness6 (enc := enc) (C := Try.checked) false ⟨#[], #[.slice none 0 0], []⟩ 8 (by kernel_rfl) (by kernel_rfl) (by kernel_rfl) (by kernel_rfl)) ?_
  intro W base args ds gs before hval0 hW hcnd hsz0 _
  have hsz : (DataW.weightsEach Try.prog (Try.f9.params.toList ++ Rows.stampGreatestSpec.plain.varTypes Try.prog) (ds ++ gs)).all (· ≤ reachBytes) = true := hsz0
  have hval : ∀ (j : Nat) t v, Try.f9.params[j]? = some t → args[j]? = some v → Value.okWide Try.prog W .any base t v := hval0
  have hW' := hW
  obtain ⟨p, q, hA0, hV, rfl, hfz, hnd⟩ := hW
  have hA : DataW.TrodAll enc Try.prog W 0 (fun _ => true) true Try.f9.params.toList args.toList ds p := hA0
  have hA1 := hA
  rw [Try.params9] at hA hval hsz
  obtain ⟨v0, vs0, d0, ds0, p0, q0, hargs, rfl, rfl, h0, r0⟩ := trodAll_cons hA
  obtain ⟨rfl, rfl, rfl⟩ := trodAll_nil r0
  obtain rfl : args = #[v0] := by cases args; simp_all
  obtain ⟨rfl, rfl⟩ := trodVars_none hV
  have hwt : ∀ (j : Nat) t d, ([22] : List TypeId)[j]? = some t → ([d0] : List _)[j]? = some d → ∀ n ∈ d.weights Try.prog t, n ≤ reachBytes := fun j t d ht hd n hn => by
    have := List.all_eq_true.1 hsz n (DataW.weights_mem_each (j := j) (t := t) (d := d) ?_ ?_ n hn)
    · simpa using this
    · have hlt := (List.getElem?_eq_some_iff.1 ht).1
      rw [List.getElem?_append_left (by simpa using hlt)]; exact ht
    · have hlt := (List.getElem?_eq_some_iff.1 hd).1
      rw [List.getElem?_append_left (by simpa using hlt)]; exact hd
  obtain ⟨a0, n0, c0, x0, rfl, ro0, el0, by0, mx0⟩ := open_flats (f := 5) (ks := [.s]) Try.underlying22 (by kernel_rfl) (by kernel_rfl) (hval 0 22 v0 rfl rfl) h0 (hwt 0 22 d0 rfl rfl)
  refine (e9.2 _ _ W (GreatestLaw_ok (W := W) ro0 el0 mx0 : bondstorelaw05_StampGreatest.u _ (fun v w' => v = .bool true ∧ Below W.heap.size W w') W)).mono fun e W' ⟨v, he, hv, bel⟩ => ?_
  subst he hv
  exact ⟨_, rfl, _, _, _, [], _, [], hW', trodAll_mk1 (shut_bool Try.underlying4 _), Go.Sep.Below.trodAll laidOut bel (by kernel_rfl) hA1, rfl, bel.frame _, fun h => by cases h⟩
theorem over : Rows.stampGreatestRow.holds Try.pinned (OpenSpec.ofChange Rows.stampGreatestSpec) :=
  OpenClaim.holds_of_wide 9 Try.f9 rfl rfl rfl rfl rfl rfl rfl ⟨rfl, rfl, rfl, rfl, rfl⟩ rfl rfl rfl rfl rfl (by kernel_rfl) Try.func9 (by kernel_rfl)
    (of_decide_eq_true (by kernel_rfl)) (by unfold Func.isWrapper; first | (rw [if_pos (by decide +kernel)]; kernel_rfl) | (rw [if_neg (by decide +kernel)]; exact ⟨rfl, rfl⟩))
    (fun os started H enc _ => lifted os started H enc)
end Go.Proofs.Ytidhimamegfdaaa.stampGreatest
namespace Go.Proofs.Ytidhimamegfdaaa
/-- The row. -/
theorem stampGreatest_holds : Rows.StampGreatestSaid := stampGreatest.over
#print axioms stampGreatest_holds
end Go.Proofs.Ytidhimamegfdaaa
