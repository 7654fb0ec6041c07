/- The row of the law JournalRestarts, for every input: it returns true, and what it was given reads as before. -/
import Derived.Test.YtidhimamegfdaaaDoorTransDJ
import Derived.Test.YtidhimamegfdaaaDoorJoRes
import Derived.Test.YtidhimamegfdaaaDoorRows
import Derived.WalkKit
import Derived.ProofKit
import Derived.OpenShut
import Derived.ShutString
import Derived.ChangeOld
import Derived.Below
import Derived.SizedLaws
import Derived.Test.YtidhimamegfdaaaDoorCards
import Derived.Test.YtidhimamegfdaaaDoorTie
import Derived.LaidMore
import Derived.Lay
import Derived.SevenTiedAt
import Derived.Stop.Joined
namespace Go.Proofs.YtidhimamegfdaaaDoor.journalRestarts
open Go.ChangeShapes Go.WideShapes Go.ChangeAt Go.RowKit Go.Den Go.Sep Go.Prog
open Go.ChangeMaps (open_string shut_string)
set_option linter.unusedVariables false
set_option linter.unusedSimpArgs false
set_option maxRecDepth 100000
theorem own : ownKnob Tryd.prog.godebug = none := by kernel_rfl
theorem laidOut : laidOutB Tryd.prog = true := by kernel_rfl
theorem lifted (os : Os) (started : os.Started) (H : Type) (enc : TypeId × Value → H) :
    ReturnsInHanded {} Tryd.checked os 15 .any (fun w args => (Rows.journalRestartsSpec.pre enc Tryd.prog Tryd.f15 Rows.journalRestartsRow.domain false w args ∧ laidMetH Tryd.prog Rows.journalRestartsRow.laid w) ∧ sizedMet enc Tryd.prog Tryd.f15 (OpenSpec.ofChange Rows.journalRestartsSpec) false w args)
      (Rows.journalRestartsSpec.post enc Tryd.prog Tryd.f15 false true false false) := by
  refine returnsInHanded_of_change_and (C := Tryd.checked) (X := fun w _ => laidMetH Tryd.prog Rows.journalRestartsRow.laid w) (fun _ _ _ hh h => h.of_heap hh) own started (by kernel_rfl) Tryd.func15
    (ChangeSpec.witness_shaped (enc := enc) (C := Tryd.checked) (os := os) (X := fun w _ => laidMetH Tryd.prog Rows.journalRestartsRow.laid w) false (World.laidAll Tryd.prog os Rows.journalRestartsRow.laid) #[.slice none 0 0, .int .i64 0, .int .u64 0] 8 (World.laidAll_os _ _ _)
      (World.shaped_of_ZipB (by kernel_rfl) (by kernel_rfl)) (by kernel_rfl) (by kernel_rfl) (by kernel_rfl)
      (by rw [MakeChecks.laidMetH_plain _ _ _ (by kernel_rfl)]; exact laidMet_laidAll _ (by kernel_rfl) (by kernel_rfl))) ?_
  intro W base args ds gs before hval0 hW hcnd hsz0 _ _
  have hsz : (DataW.weightsEach Tryd.prog (Tryd.f15.params.toList ++ Rows.journalRestartsSpec.plain.varTypes Tryd.prog) (ds ++ gs)).all (· ≤ reachBytes) = true := hsz0
  have hval : ∀ (j : Nat) t v, Tryd.f15.params[j]? = some t → args[j]? = some v → Value.okWide Tryd.prog W .any base t v := hval0
  have hW' := hW
  obtain ⟨p, q, hA0, hV, rfl, hfz, hnd⟩ := hW
  have hA : DataW.TrodAll enc Tryd.prog W 0 (fun _ => true) true Tryd.f15.params.toList args.toList ds p := hA0
  have hA1 := hA
  rw [Tryd.params15] at hA hval hsz
  obtain ⟨v0, vs0, d0, ds0, p0, q0, hargs, rfl, rfl, h0, r0⟩ := trodAll_cons hA
  obtain ⟨v1, vs1, d1, ds1, p1, q1, rfl, rfl, rfl, h1, r1⟩ := trodAll_cons r0
  obtain ⟨v2, vs2, d2, ds2, p2, q2, rfl, rfl, rfl, h2, r2⟩ := trodAll_cons r1
  obtain ⟨rfl, rfl, rfl⟩ := trodAll_nil r2
  obtain rfl : args = #[v0, v1, v2] := by cases args; simp_all
  obtain ⟨rfl, rfl⟩ := trodVars_none hV
  have hwt : ∀ (j : Nat) t d, ([44, 3, 45] : List TypeId)[j]? = some t → ([d0, d1, d2] : List _)[j]? = some d → ∀ n ∈ d.weights Tryd.prog t, n ≤ reachBytes := fun j t d ht hd n hn => by
    have := List.all_eq_true.1 hsz n (DataW.weights_mem_each (j := j) (t := t) (d := d) ?_ ?_ n hn)
    · simpa using this
    · have hlt := (List.getElem?_eq_some_iff.1 ht).1
      rw [List.getElem?_append_left (by simpa using hlt)]; exact ht
    · have hlt := (List.getElem?_eq_some_iff.1 hd).1
      rw [List.getElem?_append_left (by simpa using hlt)]; exact hd
  obtain ⟨a0, n0, c0, x0, rfl, ro0, el0, by0, mx0⟩ := open_flats (f := 5) (ks := [.s]) Tryd.underlying44 (by kernel_rfl) (by kernel_rfl) (hval 0 44 v0 rfl rfl) h0 (hwt 0 44 d0 rfl rfl)
  have cp0 := open_cap Tryd.underlying44 h0
  obtain ⟨a1, rfl, _, _, w1⟩ := open_int Tryd.underlying3 (hval 1 3 v1 rfl rfl) h1
  obtain ⟨a2, rfl, _, _, w2⟩ := open_int Tryd.underlying45 (hval 2 45 v2 rfl rfl) h2
  refine (e15.2 _ _ W (Res6_ok (W := W) ro0 el0 mx0 cp0 w1 w2 : bondstorelaw06_JournalRestarts.u _ (fun v w' => v = .bool true ∧ Below W.heap.size W w') W)).mono fun e W' ⟨v, he, hv, bel⟩ => ?_
  subst he hv
  exact ⟨_, rfl, _, _, _, [], _, [], hW', trodAll_mk1 (shut_bool Tryd.underlying4 _), Go.Sep.Below.trodAll laidOut bel (by kernel_rfl) hA1, rfl, bel.frame _, fun h => by cases h⟩
theorem over : Rows.journalRestartsRow.holds Tryd.pinned (OpenSpec.ofChange Rows.journalRestartsSpec) :=
  OpenClaim.holds_of_wide 15 Tryd.f15 rfl rfl rfl rfl rfl rfl rfl ⟨rfl, rfl, rfl, rfl, rfl⟩ rfl rfl rfl rfl rfl (by kernel_rfl) Tryd.func15 (by kernel_rfl)
    (of_decide_eq_true (by kernel_rfl)) (by unfold Func.isWrapper; first | (rw [if_pos (by decide +kernel)]; kernel_rfl) | (rw [if_neg (by decide +kernel)]; exact ⟨rfl, rfl⟩))
    (fun os started H enc _ => lifted os started H enc)
theorem plain (f : FuncId) (fn : Func) (hf : Tryd.pinned.checked.prog.funcNamed Rows.journalRestartsRow.func = some f) (hfn : Tryd.pinned.checked.prog.funcs[f]? = some fn) :
    false = Tryd.pinned.checked.prog.looks [] ∧ ∀ (j : Nat) t, fn.params[j]? = some t → Tryd.pinned.checked.prog.wantsStandIn t = false := by
  obtain rfl : f = 15 := Option.some.inj ((show Tryd.prog.funcNamed Rows.journalRestartsRow.func = some 15 by kernel_rfl).symm.trans hf) |>.symm
  obtain rfl : fn = Tryd.f15 := (Option.some.inj (Tryd.func15.symm.trans hfn)).symm
  refine ⟨by kernel_rfl, fun j t ht => ?_⟩
  rw [Tryd.params15] at ht
  have hm : t ∈ [44, 3, 45] := by simpa using Array.mem_of_getElem? ht
  have hall : ([44, 3, 45].all fun u => !Tryd.prog.wantsStandIn u) = true := by kernel_rfl
  exact (show Tryd.prog.wantsStandIn t = false by simpa using List.all_eq_true.1 hall t hm)
theorem card : Rows.JournalRestartsCardSaid :=
  Claim7.holds_tied_plain_at .later [] _ _ _ _ over (fun _ h => by cases h) (by kernel_rfl) (fun _ h => by cases h) journalRestarts_row_tie rfl ⟨rfl, rfl⟩ (by kernel_rfl) rfl plain (by kernel_rfl)
end Go.Proofs.YtidhimamegfdaaaDoor.journalRestarts
namespace Go.Proofs.YtidhimamegfdaaaDoor
/-- The row. -/
theorem journalRestarts_holds : Rows.JournalRestartsSaid := journalRestarts.over
/-- The card. -/
theorem journalRestarts_card : Rows.JournalRestartsCardSaid := journalRestarts.card
#print axioms journalRestarts_card
end Go.Proofs.YtidhimamegfdaaaDoor
