/- The law StampGreatest. -/
import Derived.Test.YtidhimamegfdaaaSt3
namespace Go.Sep
open Go.Den Go.RowKit Go.Prog Go.Plat
set_option linter.unusedSimpArgs false
set_option linter.unusedVariables false

section
variable {W w : World} {L : List HP}

theorem GreatestLaw_spec {sb : Option Addr} {sn sc : Nat} {ss : List ByteArray} {K : VK} (h : St W w L) (hr : Ro W sb sn 1 (ss.map .string)) (hmx : sn ≤ maxLen)
    (hK : ∀ w', St W w' L → K (.bool true) w') : bondstorelaw05_StampGreatest sb sn sc K w := by
  unfold bondstorelaw05_StampGreatest
  refine alive5_spec h fun w h => ?_
  simp only [nn_some, add_mk, Nat.zero_add, Nat.add_zero, Nat.reduceAdd, Nat.reduceMul, Option.isNone_some, Option.isNone_none, br_true, br_false, Bool.not_true, Bool.not_false, xI_eq, xB_eq, xS_eq, xP_eq, xL_eq, x0_eq, x2_eq, x3_eq, chk_eq, true_and, and_true, List.set_cons_zero, List.set_cons_succ, List.eraseIdx_cons_zero, List.eraseIdx_cons_succ]
  refine disk5_spec h hr hmx fun d D w hok harm hlat hlen h => ?_
  simp only [nn_some, add_mk, Nat.zero_add, Nat.add_zero, Nat.reduceAdd, Nat.reduceMul, Option.isNone_some, Option.isNone_none, br_true, br_false, Bool.not_true, Bool.not_false, xI_eq, xB_eq, xS_eq, xP_eq, xL_eq, x0_eq, x2_eq, x3_eq, chk_eq, true_and, and_true, List.set_cons_zero, List.set_cons_succ, List.eraseIdx_cons_zero, List.eraseIdx_cons_succ]
  refine ⟨fun us w' => ∃ j : Nat, us = [.bool false, .pointer (some ⟨d, 0, none⟩), .int .i64 (grTo D j), .int .i64 j] ∧ j ≤ 12 ∧ St W w' (disk d D :: L),
    fun us _ => match us with | [_, _, _, .int _ j] => 12 - j.toNat | _ => 0, ⟨0, rfl, Nat.zero_le _, h⟩, ?_⟩
  rintro b2 p2 n1 n2 w2 ⟨j, he, hj, hs⟩
  cases he
  refine br_of (fun h0 => ?_) (fun h0 => ?_)
  · have hlt : (j : Int) < 12 := of_decide_eq_true h0
    have hi : D.is (j : Int) := ⟨by omega, by omega⟩
    have hsz := read_size hok hi
    have e5 : IntKind.i64.wrap ((j : Int) + 1) = ((j + 1 : Nat) : Int) := by rw [wrap_id (by omega)]; omega
    refine Disk_Read_spec (k := 0) hs rfl hok ?_
    simp only [nn_some, add_mk, Nat.zero_add, Nat.add_zero, Nat.reduceAdd, Nat.reduceMul, Option.isNone_some, Option.isNone_none, br_true, br_false, Bool.not_true, Bool.not_false, xI_eq, xB_eq, xS_eq, xP_eq, xL_eq, x0_eq, x2_eq, x3_eq, chk_eq, true_and, and_true, List.set_cons_zero, List.set_cons_succ, List.eraseIdx_cons_zero, List.eraseIdx_cons_succ]
    refine tick_of hs fun w hs => ?_
    unfold slStr
    simp only [nn_some, add_mk, Nat.zero_add, Nat.add_zero, Nat.reduceAdd, Nat.reduceMul, Option.isNone_some, Option.isNone_none, br_true, br_false, Bool.not_true, Bool.not_false, xI_eq, xB_eq, xS_eq, xP_eq, xL_eq, x0_eq, x2_eq, x3_eq, chk_eq, true_and, and_true, List.set_cons_zero, List.set_cons_succ, List.eraseIdx_cons_zero, List.eraseIdx_cons_succ]
    refine ⟨by omega, by omega, ?_⟩
    have eh : (D.read (j : Int)).1.extract 0 (8 : Int).toNat = hd8 (D.read (j : Int)).1 := rfl
    have et : (D.read (j : Int)).1.extract (120 : Int).toNat (D.read (j : Int)).1.size = tl8 (D.read (j : Int)).1 := by unfold tl8; rw [hsz]; rfl
    rw [eh, et]
    refine Number_spec (by unfold hd8; rw [strEx]; omega) ?_
    simp only [nn_some, add_mk, Nat.zero_add, Nat.add_zero, Nat.reduceAdd, Nat.reduceMul, Option.isNone_some, Option.isNone_none, br_true, br_false, Bool.not_true, Bool.not_false, xI_eq, xB_eq, xS_eq, xP_eq, xL_eq, x0_eq, x2_eq, x3_eq, chk_eq, true_and, and_true, List.set_cons_zero, List.set_cons_succ, List.eraseIdx_cons_zero, List.eraseIdx_cons_succ]
    refine Number_spec (by unfold tl8; rw [strEx]; omega) ?_
    simp only [nn_some, add_mk, Nat.zero_add, Nat.add_zero, Nat.reduceAdd, Nat.reduceMul, Option.isNone_some, Option.isNone_none, br_true, br_false, Bool.not_true, Bool.not_false, xI_eq, xB_eq, xS_eq, xP_eq, xL_eq, x0_eq, x2_eq, x3_eq, chk_eq, true_and, and_true, List.set_cons_zero, List.set_cons_succ, List.eraseIdx_cons_zero, List.eraseIdx_cons_succ]
    rw [e5]
    exact ⟨⟨j + 1, rfl, by omega, hs⟩, by omega⟩
  · have hge : ¬ (j : Int) < 12 := of_decide_eq_false h0
    have : j = 12 := by omega
    subst this
    refine Greatest_spec (k := 0) hs rfl hok fun w hs => ?_
    simp only [nn_some, add_mk, Nat.zero_add, Nat.add_zero, Nat.reduceAdd, Nat.reduceMul, Option.isNone_some, Option.isNone_none, br_true, br_false, Bool.not_true, Bool.not_false, xI_eq, xB_eq, xS_eq, xP_eq, xL_eq, x0_eq, x2_eq, x3_eq, chk_eq, true_and, and_true, List.set_cons_zero, List.set_cons_succ, List.eraseIdx_cons_zero, List.eraseIdx_cons_succ]
    rw [hlen, beq_self_eq_true]
    simp only [nn_some, add_mk, Nat.zero_add, Nat.add_zero, Nat.reduceAdd, Nat.reduceMul, Option.isNone_some, Option.isNone_none, br_true, br_false, Bool.not_true, Bool.not_false, xI_eq, xB_eq, xS_eq, xP_eq, xL_eq, x0_eq, x2_eq, x3_eq, chk_eq, true_and, and_true, List.set_cons_zero, List.set_cons_succ, List.eraseIdx_cons_zero, List.eraseIdx_cons_succ]
    refine New_spec hs fun e w hs => ?_
    simp only [nn_some, add_mk, Nat.zero_add, Nat.add_zero, Nat.reduceAdd, Nat.reduceMul, Option.isNone_some, Option.isNone_none, br_true, br_false, Bool.not_true, Bool.not_false, xI_eq, xB_eq, xS_eq, xP_eq, xL_eq, x0_eq, x2_eq, x3_eq, chk_eq, true_and, and_true, List.set_cons_zero, List.set_cons_succ, List.eraseIdx_cons_zero, List.eraseIdx_cons_succ]
    refine Greatest_spec (k := 0) hs rfl (new_ok 0) fun w hs => ?_
    simp only [nn_some, add_mk, Nat.zero_add, Nat.add_zero, Nat.reduceAdd, Nat.reduceMul, Option.isNone_some, Option.isNone_none, br_true, br_false, Bool.not_true, Bool.not_false, xI_eq, xB_eq, xS_eq, xP_eq, xL_eq, x0_eq, x2_eq, x3_eq, chk_eq, true_and, and_true, List.set_cons_zero, List.set_cons_succ, List.eraseIdx_cons_zero, List.eraseIdx_cons_succ]
    exact hK w hs.drop.drop

theorem GreatestLaw_ok {a0 : Option Addr} {n0 c0 : Nat} {x0 : List Value} (ro0 : Ro W a0 n0 1 x0) (el0 : Elems [.s] n0 x0) (mx0 : n0 ≤ maxLen) :
    bondstorelaw05_StampGreatest.u [.slice a0 n0 c0] (fun v w' => v = .bool true ∧ Below W.heap.size W w') W := by
  obtain ⟨ss, h1, h2, h3⟩ := elems_str el0 ro0.1
  subst h2
  unfold bondstorelaw05_StampGreatest.u
  exact GreatestLaw_spec (K := fun v w' => v = .bool true ∧ Below W.heap.size W w') (St.start W) ro0 mx0 (fun w' h => ⟨rfl, h.below⟩)
end
end Go.Sep
