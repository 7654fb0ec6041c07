/- The law CrownBytes. -/
import Derived.Test.YtidhimamegfdaaaDoorCr2
namespace Go.Sep
open Go.Den Go.RowKit Go.Prog Go.Plat
set_option linter.unusedSimpArgs false
set_option linter.unusedVariables false

section
variable {W w : World} {L : List HP}

theorem CBytes_spec {h : PHead} {K : VK} (hs : St W w L) (hK : ∀ w', St W w' L → K (.bool true) w') : bondstorelaw08_CrownBytes (headCells h) K w := by
  unfold bondstorelaw08_CrownBytes
  refine mk_of hs fun r w hs => ?_
  refine alive8_spec hs fun w hs => ?_
  simp only [nn_some, add_mk, Nat.zero_add, Nat.add_zero, Nat.reduceAdd, Nat.reduceMul, Option.isNone_some, Option.isNone_none, br_true, br_false, Bool.not_true, Bool.not_false, xI_eq, xB_eq, xS_eq, xP_eq, xL_eq, x0_eq, x2_eq, x3_eq, chk_eq, true_and, and_true, List.set_cons_zero, List.set_cons_succ, List.eraseIdx_cons_zero, List.eraseIdx_cons_succ]
  refine ldN_pt (k := 0) (xs := headCells h) hs rfl rfl (fun j v hj => by rw [Nat.zero_add]; exact hj) ?_
  refine cBytes_spec hs fun w hs => ?_
  simp only [nn_some, add_mk, Nat.zero_add, Nat.add_zero, Nat.reduceAdd, Nat.reduceMul, Option.isNone_some, Option.isNone_none, br_true, br_false, Bool.not_true, Bool.not_false, xI_eq, xB_eq, xS_eq, xP_eq, xL_eq, x0_eq, x2_eq, x3_eq, chk_eq, true_and, and_true, List.set_cons_zero, List.set_cons_succ, List.eraseIdx_cons_zero, List.eraseIdx_cons_succ]
  refine tick_of hs fun w hs => ?_
  refine ldN_pt (k := 0) (xs := headCells h) hs rfl rfl (fun j v hj => by rw [Nat.zero_add]; exact hj) ?_
  refine ldN_pt (k := 0) (xs := headCells h) hs rfl rfl (fun j v hj => by rw [Nat.zero_add]; exact hj) ?_
  refine cGood_spec hs fun w hs => ?_
  simp only [nn_some, add_mk, Nat.zero_add, Nat.add_zero, Nat.reduceAdd, Nat.reduceMul, Option.isNone_some, Option.isNone_none, br_true, br_false, Bool.not_true, Bool.not_false, xI_eq, xB_eq, xS_eq, xP_eq, xL_eq, x0_eq, x2_eq, x3_eq, chk_eq, true_and, and_true, List.set_cons_zero, List.set_cons_succ, List.eraseIdx_cons_zero, List.eraseIdx_cons_succ]
  refine kp_pt (k := 0) hs rfl (fun j v hj => by rw [Nat.zero_add]; exact hj) ?_
  refine good8_spec hs fun w hs => ?_
  simp only [nn_some, add_mk, Nat.zero_add, Nat.add_zero, Nat.reduceAdd, Nat.reduceMul, Option.isNone_some, Option.isNone_none, br_true, br_false, Bool.not_true, Bool.not_false, xI_eq, xB_eq, xS_eq, xP_eq, xL_eq, x0_eq, x2_eq, x3_eq, chk_eq, true_and, and_true, List.set_cons_zero, List.set_cons_succ, List.eraseIdx_cons_zero, List.eraseIdx_cons_succ]
  rw [beq_self_eq_true]
  simp only [nn_some, add_mk, Nat.zero_add, Nat.add_zero, Nat.reduceAdd, Nat.reduceMul, Option.isNone_some, Option.isNone_none, br_true, br_false, Bool.not_true, Bool.not_false, xI_eq, xB_eq, xS_eq, xP_eq, xL_eq, x0_eq, x2_eq, x3_eq, chk_eq, true_and, and_true, List.set_cons_zero, List.set_cons_succ, List.eraseIdx_cons_zero, List.eraseIdx_cons_succ]
  refine ldN_pt (k := 0) (xs := headCells h) hs rfl rfl (fun j v hj => by rw [Nat.zero_add]; exact hj) ?_
  refine good8_spec hs fun w hs => ?_
  unfold headSum bondstorelaw08_CrownBytes.j1
  by_cases hg : HGood h
  · rw [decide_eq_true hg, if_pos hg]
    simp only [nn_some, add_mk, Nat.zero_add, Nat.add_zero, Nat.reduceAdd, Nat.reduceMul, Option.isNone_some, Option.isNone_none, br_true, br_false, Bool.not_true, Bool.not_false, xI_eq, xB_eq, xS_eq, xP_eq, xL_eq, x0_eq, x2_eq, x3_eq, chk_eq, true_and, and_true, List.set_cons_zero, List.set_cons_succ, List.eraseIdx_cons_zero, List.eraseIdx_cons_succ]
    refine cRead_spec hs (by rw [headL_length]; decide) fun w hs => ?_
    rw [headL_readH hg]
    unfold headRes
    simp only [nn_some, add_mk, Nat.zero_add, Nat.add_zero, Nat.reduceAdd, Nat.reduceMul, Option.isNone_some, Option.isNone_none, br_true, br_false, Bool.not_true, Bool.not_false, xI_eq, xB_eq, xS_eq, xP_eq, xL_eq, x0_eq, x2_eq, x3_eq, chk_eq, true_and, and_true, List.set_cons_zero, List.set_cons_succ, List.eraseIdx_cons_zero, List.eraseIdx_cons_succ]
    simp only [xA_eq]
    refine ⟨rfl, ?_⟩
    simp only [nn_some, add_mk, Nat.zero_add, Nat.add_zero, Nat.reduceAdd, Nat.reduceMul, Option.isNone_some, Option.isNone_none, br_true, br_false, Bool.not_true, Bool.not_false, xI_eq, xB_eq, xS_eq, xP_eq, xL_eq, x0_eq, x2_eq, x3_eq, chk_eq, true_and, and_true, List.set_cons_zero, List.set_cons_succ, List.eraseIdx_cons_zero, List.eraseIdx_cons_succ]
    refine mk_of hs fun r2 w hs => ?_
    refine ⟨rfl, stN_pt (k := 0) hs rfl (Nat.le_of_ble_eq_true rfl) (by simp [Value.oneCell', headCells]) fun w hs => ?_⟩
    rw [over_all (by simp [headCells])] at hs
    simp only [nn_some, add_mk, Nat.zero_add, Nat.add_zero, Nat.reduceAdd, Nat.reduceMul, Option.isNone_some, Option.isNone_none, br_true, br_false, Bool.not_true, Bool.not_false, xI_eq, xB_eq, xS_eq, xP_eq, xL_eq, x0_eq, x2_eq, x3_eq, chk_eq, true_and, and_true, List.set_cons_zero, List.set_cons_succ, List.eraseIdx_cons_zero, List.eraseIdx_cons_succ] at hs
    rw [beq_self_eq_true, br_true]
    refine ldN_pt (k := 1) (xs := headCells h) hs rfl rfl (fun j v hj => by rw [Nat.zero_add]; exact hj) ?_
    refine bytes8_spec hs fun w hs => ?_
    simp only [nn_some, add_mk, Nat.zero_add, Nat.add_zero, Nat.reduceAdd, Nat.reduceMul, Option.isNone_some, Option.isNone_none, br_true, br_false, Bool.not_true, Bool.not_false, xI_eq, xB_eq, xS_eq, xP_eq, xL_eq, x0_eq, x2_eq, x3_eq, chk_eq, true_and, and_true, List.set_cons_zero, List.set_cons_succ, List.eraseIdx_cons_zero, List.eraseIdx_cons_succ]
    rw [strEq_iff, decide_eq_true rfl]
    simp only [nn_some, add_mk, Nat.zero_add, Nat.add_zero, Nat.reduceAdd, Nat.reduceMul, Option.isNone_some, Option.isNone_none, br_true, br_false, Bool.not_true, Bool.not_false, xI_eq, xB_eq, xS_eq, xP_eq, xL_eq, x0_eq, x2_eq, x3_eq, chk_eq, true_and, and_true, List.set_cons_zero, List.set_cons_succ, List.eraseIdx_cons_zero, List.eraseIdx_cons_succ]
    refine ldN_pt (k := 0) (xs := headCells h) hs rfl rfl (fun j v hj => by rw [Nat.zero_add]; exact hj) ?_
    refine ldN_pt (k := 1) (xs := headCells h) hs rfl rfl (fun j v hj => by rw [Nat.zero_add]; exact hj) ?_
    refine ⟨⟨rfl, rfl⟩, ?_⟩
    rw [eqCells_head, decide_eq_true rfl]
    exact hK w hs.drop.drop
  · rw [decide_eq_false hg, if_neg hg]
    simp only [nn_some, add_mk, Nat.zero_add, Nat.add_zero, Nat.reduceAdd, Nat.reduceMul, Option.isNone_some, Option.isNone_none, br_true, br_false, Bool.not_true, Bool.not_false, xI_eq, xB_eq, xS_eq, xP_eq, xL_eq, x0_eq, x2_eq, x3_eq, chk_eq, true_and, and_true, List.set_cons_zero, List.set_cons_succ, List.eraseIdx_cons_zero, List.eraseIdx_cons_succ]
    rw [beq_self_eq_true, br_true]
    have e : strEq (bs []) (⟨#[]⟩ : ByteArray) = true := by rw [strEq_iff]; exact decide_eq_true rfl
    rw [e]
    exact hK w hs.drop

theorem CBytes_ok {a0 : List Value} (l0 : a0.length = 4) (ty0 : Typed [.i .i64, .i .i64, .i .i64, .i .i64] a0 0) : bondstorelaw08_CrownBytes.u [.agg ⟨a0⟩] (fun v w' => v = .bool true ∧ Below W.heap.size W w') W := by
  obtain ⟨v0, g0, n0, rfl, _⟩ := ty0 0 _ rfl
  obtain ⟨v1, g1, n1, rfl, _⟩ := ty0 1 _ rfl
  obtain ⟨v2, g2, n2, rfl, _⟩ := ty0 2 _ rfl
  obtain ⟨v3, g3, n3, rfl, _⟩ := ty0 3 _ rfl
  have e : a0 = headCells ⟨n0, n1, n2, n3⟩ := by
    apply List.ext_getElem?
    intro j
    match j with
    | 0 => exact g0
    | 1 => exact g1
    | 2 => exact g2
    | 3 => exact g3
    | j + 4 => rw [List.getElem?_eq_none (by omega), List.getElem?_eq_none (by simp [headCells])]
  subst e
  unfold bondstorelaw08_CrownBytes.u
  exact CBytes_spec (K := fun v w' => v = .bool true ∧ Below W.heap.size W w') (St.start W) (fun w' h => ⟨rfl, h.below⟩)
end
end Go.Sep
