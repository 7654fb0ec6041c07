/- The law PlatterApart. -/
import Derived.Test.YtidhimamegfdaaaLa1
namespace Go.Sep
open Go.Den Go.RowKit Go.Prog Go.Plat
set_option linter.unusedSimpArgs false
set_option linter.unusedVariables false

/-- Two disks that hold the same at 'i', and aren't armed. -/
structure Two (i : Int) (j : Nat) (D U : Disk) : Prop where
  ok : D.Ok
  ok2 : U.Ok
  arm : D.arm = 0
  arm2 : U.arm = 0
  is : D.is i
  len : D.safe.length = U.safe.length
  now : D.now i = U.now i
  few : D.later.length ≤ j
  few2 : U.later.length ≤ j

theorem Two.is2 {i : Int} {j : Nat} {D U : Disk} (h : Two i j D U) : U.is i := ⟨h.is.1, by rw [← h.len]; exact h.is.2⟩

theorem Two.more {i : Int} {j : Nat} {D U : Disk} (h : Two i j D U) : Two i (j + 1) D U := ⟨h.ok, h.ok2, h.arm, h.arm2, h.is, h.len, h.now, Nat.le_succ_of_le h.few, Nat.le_succ_of_le h.few2⟩

theorem Two.one {i n : Int} {s : ByteArray} {j : Nat} {D U : Disk} (h : Two i j D U) (hj : j < 1000) (hn : n ≠ i) : Two i (j + 1) (D.write n s).1 U := by
  have h1 := write_len D n s
  refine ⟨write_ok h.ok n s (by have := h.few; omega), h.ok2, Dk.write0_arm h.arm n s, h.arm2, ⟨h.is.1, by rw [h1.1]; exact h.is.2⟩, by rw [h1.1]; exact h.len, ?_, by have := h.few; omega, Nat.le_succ_of_le h.few2⟩
  rw [Dk.now_write0 h.arm, if_neg (fun hh => hn hh.2)]; exact h.now

theorem Two.both {i n : Int} {s : ByteArray} {j : Nat} {D U : Disk} (h : Two i j D U) (hj : j < 1000) : Two i (j + 1) (D.write n s).1 (U.write n s).1 := by
  have h1 := write_len D n s
  have h2 := write_len U n s
  refine ⟨write_ok h.ok n s (by have := h.few; omega), write_ok h.ok2 n s (by have := h.few2; omega), Dk.write0_arm h.arm n s, Dk.write0_arm h.arm2 n s, ⟨h.is.1, by rw [h1.1]; exact h.is.2⟩, by rw [h1.1, h2.1]; exact h.len, ?_, by have := h.few; omega, by have := h.few2; omega⟩
  rw [Dk.now_write0 h.arm, Dk.now_write0 h.arm2]
  have e : D.is n ↔ U.is n := by unfold Disk.is; rw [h.len]
  simp only [e, h.now]

theorem Two.sync {i : Int} {j : Nat} {D U : Disk} (h : Two i j D U) : Two i (j + 1) D.sync.1 U.sync.1 := by
  have h1 := Dk.sync_len (D := D)
  have h2 := Dk.sync_len (D := U)
  refine ⟨sync_ok h.ok, sync_ok h.ok2, Dk.sync0_arm h.arm, Dk.sync0_arm h.arm2, ⟨h.is.1, by rw [h1.1]; exact h.is.2⟩, by rw [h1.1, h2.1]; exact h.len, ?_, by have := h.few; omega, by have := h.few2; omega⟩
  rw [Dk.now_sync0 h.arm h.ok h.is, Dk.now_sync0 h.arm2 h.ok2 h.is2]; exact h.now

section
variable {W w : World} {L : List HP}

theorem Apart_spec {n at' : Int} {sb : Option Addr} {sn sc : Nat} {cs : List PCall} {K : VK} (h : St W w L) (hr : Ro W sb sn 5 (cs.flatMap callCells)) (hl : cs.length = sn) (hmx : sn ≤ maxLen) (hok : ∀ c ∈ cs, c.Ok)
    (hK : ∀ w', St W w' L → K (.bool true) w') : bondstorelaw04_PlatterApart n sb sn sc at' K w := by
  unfold bondstorelaw04_PlatterApart
  refine alive_spec h fun w h => ?_
  simp only [nn_some, add_mk, Nat.zero_add, Nat.add_zero, Nat.reduceAdd, Nat.reduceMul, Option.isNone_some, Option.isNone_none, br_true, br_false, Bool.not_true, Bool.not_false, xI_eq, xB_eq, xS_eq, xP_eq, xL_eq, x0_eq, x2_eq, x3_eq, chk_eq, true_and, and_true, List.set_cons_zero, List.set_cons_succ, List.eraseIdx_cons_zero, List.eraseIdx_cons_succ]
  refine great_spec h hr hl hmx hok fun b w hb h => ?_
  simp only [nn_some, add_mk, Nat.zero_add, Nat.add_zero, Nat.reduceAdd, Nat.reduceMul, Option.isNone_some, Option.isNone_none, br_true, br_false, Bool.not_true, Bool.not_false, xI_eq, xB_eq, xS_eq, xP_eq, xL_eq, x0_eq, x2_eq, x3_eq, chk_eq, true_and, and_true, List.set_cons_zero, List.set_cons_succ, List.eraseIdx_cons_zero, List.eraseIdx_cons_succ]
  have go : ∀ b, (b = false → 0 ≤ at' ∧ at' < n ∧ n ≤ 40 ∧ sn ≤ 80) → bondstorelaw04_PlatterApart.j1 K n sb sn sc at' b w := fun b hb => by
    unfold bondstorelaw04_PlatterApart.j1
    refine br_of (fun _ => hK w h) (fun hb2 => ?_)
    obtain ⟨h0, h1, h40, hsn⟩ := hb hb2
    refine New_spec h fun d w h => ?_
    simp only [nn_some, add_mk, Nat.zero_add, Nat.add_zero, Nat.reduceAdd, Nat.reduceMul, Option.isNone_some, Option.isNone_none, br_true, br_false, Bool.not_true, Bool.not_false, xI_eq, xB_eq, xS_eq, xP_eq, xL_eq, x0_eq, x2_eq, x3_eq, chk_eq, true_and, and_true, List.set_cons_zero, List.set_cons_succ, List.eraseIdx_cons_zero, List.eraseIdx_cons_succ]
    refine New_spec h fun u w h => ?_
    simp only [nn_some, add_mk, Nat.zero_add, Nat.add_zero, Nat.reduceAdd, Nat.reduceMul, Option.isNone_some, Option.isNone_none, br_true, br_false, Bool.not_true, Bool.not_false, xI_eq, xB_eq, xS_eq, xP_eq, xL_eq, x0_eq, x2_eq, x3_eq, chk_eq, true_and, and_true, List.set_cons_zero, List.set_cons_succ, List.eraseIdx_cons_zero, List.eraseIdx_cons_succ]
    refine ⟨fun us w' => ∃ (j : Nat), us = [.bool false, .pointer (some ⟨d, 0, none⟩), .pointer (some ⟨u, 0, none⟩), .slice sb sn sc, .int .i64 sn, .int .i64 j] ∧ j ≤ sn ∧ ∃ D U, Two at' j D U ∧ St W w' (disk u U :: disk d D :: L),
      fun us _ => match us with | [_, _, _, _, _, .int _ j] => sn - j.toNat | _ => 0, ⟨0, rfl, Nat.zero_le _, _, _, ?_, h⟩, ?_⟩
    · exact ⟨new_ok n, new_ok n, rfl, rfl, ⟨h0, by rw [new_length (by omega) h40]; omega⟩, rfl, rfl, Nat.zero_le _, Nat.zero_le _⟩
    rintro b3 p3 p4 sb2 sn2 sc2 n3 n4 w2 ⟨j, he, hj, D, U, ht, hs⟩
    cases he
    refine br_dec (fun hlt' => ?_) (fun _ => hK _ hs.drop.drop)
    have hlt : j < cs.length := by omega
    have hg : cs[j]? = some cs[j] := by simp [hlt]
    refine elem_ro (ys := callCells cs[j]) hs hr ⟨by omega, hlt'⟩ rfl rfl (callCells_one _) (fun i v hi => by rw [Int.toNat_natCast]; exact calls_get hg i v hi) fun r w hs => ?_
    generalize hμ : (fun (us : List Value) (_ : World) => match us with | [_, _, _, _, _, .int _ j] => sn - j.toNat | _ => 0) = μ
    generalize hI : (fun (us : List Value) (w' : World) => ∃ (j : Nat), us = [.bool false, .pointer (some ⟨d, 0, none⟩), .pointer (some ⟨u, 0, none⟩), .slice sb sn sc, .int .i64 sn, .int .i64 j] ∧ j ≤ sn ∧ ∃ D U, Two at' j D U ∧ St W w' (disk u U :: disk d D :: L)) = I
    have fin : ∀ D U w', Two at' (j + 1) D U → St W w' (pt r (callCells cs[j]) :: disk u U :: disk d D :: L) → 
        bondstorelaw04_PlatterApart.j2 K (some ⟨d, 0, none⟩) at' (some ⟨u, 0, none⟩) I false sb sn sc sn j μ w2 w' := fun D U w' ht hs => by
      unfold bondstorelaw04_PlatterApart.j2
      refine Disk_Read_spec (k := 2) hs rfl ht.ok ?_
      simp only [nn_some, add_mk, Nat.zero_add, Nat.add_zero, Nat.reduceAdd, Nat.reduceMul, Option.isNone_some, Option.isNone_none, br_true, br_false, Bool.not_true, Bool.not_false, xI_eq, xB_eq, xS_eq, xP_eq, xL_eq, x0_eq, x2_eq, x3_eq, chk_eq, true_and, and_true, List.set_cons_zero, List.set_cons_succ, List.eraseIdx_cons_zero, List.eraseIdx_cons_succ]
      refine Disk_Read_spec (k := 1) hs rfl ht.ok2 ?_
      simp only [nn_some, add_mk, Nat.zero_add, Nat.add_zero, Nat.reduceAdd, Nat.reduceMul, Option.isNone_some, Option.isNone_none, br_true, br_false, Bool.not_true, Bool.not_false, xI_eq, xB_eq, xS_eq, xP_eq, xL_eq, x0_eq, x2_eq, x3_eq, chk_eq, true_and, and_true, List.set_cons_zero, List.set_cons_succ, List.eraseIdx_cons_zero, List.eraseIdx_cons_succ]
      have e : (D.read at').1 = (U.read at').1 := by
        unfold Disk.read
        rw [if_pos ht.is, if_pos ht.is2]; exact ht.now
      rw [e, strEq_iff, decide_eq_true rfl]
      simp only [nn_some, add_mk, Nat.zero_add, Nat.add_zero, Nat.reduceAdd, Nat.reduceMul, Option.isNone_some, Option.isNone_none, br_true, br_false, Bool.not_true, Bool.not_false, xI_eq, xB_eq, xS_eq, xP_eq, xL_eq, x0_eq, x2_eq, x3_eq, chk_eq, true_and, and_true, List.set_cons_zero, List.set_cons_succ, List.eraseIdx_cons_zero, List.eraseIdx_cons_succ]
      have e5 : IntKind.i64.wrap ((j : Int) + 1) = ((j + 1 : Nat) : Int) := by rw [wrap_id (by omega)]; omega
      rw [e5, ← hI, ← hμ]
      exact ⟨⟨j + 1, rfl, by omega, D, U, ht, hs.drop⟩, by dsimp only; omega⟩
    refine ld_pt (k := 0) hs rfl rfl ?_
    simp only [nn_some, add_mk, Nat.zero_add, Nat.add_zero, Nat.reduceAdd, Nat.reduceMul, Option.isNone_some, Option.isNone_none, br_true, br_false, Bool.not_true, Bool.not_false, xI_eq, xB_eq, xS_eq, xP_eq, xL_eq, x0_eq, x2_eq, x3_eq, chk_eq, true_and, and_true, List.set_cons_zero, List.set_cons_succ, List.eraseIdx_cons_zero, List.eraseIdx_cons_succ]
    refine br_eq (fun hk => ?_) (fun hk => ?_)
    · refine ld_pt (k := 0) hs rfl rfl ?_
      simp only [nn_some, add_mk, Nat.zero_add, Nat.add_zero, Nat.reduceAdd, Nat.reduceMul, Option.isNone_some, Option.isNone_none, br_true, br_false, Bool.not_true, Bool.not_false, xI_eq, xB_eq, xS_eq, xP_eq, xL_eq, x0_eq, x2_eq, x3_eq, chk_eq, true_and, and_true, List.set_cons_zero, List.set_cons_succ, List.eraseIdx_cons_zero, List.eraseIdx_cons_succ]
      refine ld_pt (k := 0) hs rfl rfl ?_
      simp only [nn_some, add_mk, Nat.zero_add, Nat.add_zero, Nat.reduceAdd, Nat.reduceMul, Option.isNone_some, Option.isNone_none, br_true, br_false, Bool.not_true, Bool.not_false, xI_eq, xB_eq, xS_eq, xP_eq, xL_eq, x0_eq, x2_eq, x3_eq, chk_eq, true_and, and_true, List.set_cons_zero, List.set_cons_succ, List.eraseIdx_cons_zero, List.eraseIdx_cons_succ]
      refine Disk_Write_spec (k := 2) hs rfl ht.ok fun w hs => ?_
      simp only [nn_some, add_mk, Nat.zero_add, Nat.add_zero, Nat.reduceAdd, Nat.reduceMul, Option.isNone_some, Option.isNone_none, br_true, br_false, Bool.not_true, Bool.not_false, xI_eq, xB_eq, xS_eq, xP_eq, xL_eq, x0_eq, x2_eq, x3_eq, chk_eq, true_and, and_true, List.set_cons_zero, List.set_cons_succ, List.eraseIdx_cons_zero, List.eraseIdx_cons_succ] at hs ⊢
      refine ld_pt (k := 0) hs rfl rfl ?_
      simp only [nn_some, add_mk, Nat.zero_add, Nat.add_zero, Nat.reduceAdd, Nat.reduceMul, Option.isNone_some, Option.isNone_none, br_true, br_false, Bool.not_true, Bool.not_false, xI_eq, xB_eq, xS_eq, xP_eq, xL_eq, x0_eq, x2_eq, x3_eq, chk_eq, true_and, and_true, List.set_cons_zero, List.set_cons_succ, List.eraseIdx_cons_zero, List.eraseIdx_cons_succ]
      refine br_eq (fun hat => ?_) (fun hat => ?_)
      · refine ld_pt (k := 0) hs rfl rfl ?_
        simp only [nn_some, add_mk, Nat.zero_add, Nat.add_zero, Nat.reduceAdd, Nat.reduceMul, Option.isNone_some, Option.isNone_none, br_true, br_false, Bool.not_true, Bool.not_false, xI_eq, xB_eq, xS_eq, xP_eq, xL_eq, x0_eq, x2_eq, x3_eq, chk_eq, true_and, and_true, List.set_cons_zero, List.set_cons_succ, List.eraseIdx_cons_zero, List.eraseIdx_cons_succ]
        refine ld_pt (k := 0) hs rfl rfl ?_
        simp only [nn_some, add_mk, Nat.zero_add, Nat.add_zero, Nat.reduceAdd, Nat.reduceMul, Option.isNone_some, Option.isNone_none, br_true, br_false, Bool.not_true, Bool.not_false, xI_eq, xB_eq, xS_eq, xP_eq, xL_eq, x0_eq, x2_eq, x3_eq, chk_eq, true_and, and_true, List.set_cons_zero, List.set_cons_succ, List.eraseIdx_cons_zero, List.eraseIdx_cons_succ]
        refine Disk_Write_spec (k := 1) hs rfl ht.ok2 fun w hs => ?_
        simp only [nn_some, add_mk, Nat.zero_add, Nat.add_zero, Nat.reduceAdd, Nat.reduceMul, Option.isNone_some, Option.isNone_none, br_true, br_false, Bool.not_true, Bool.not_false, xI_eq, xB_eq, xS_eq, xP_eq, xL_eq, x0_eq, x2_eq, x3_eq, chk_eq, true_and, and_true, List.set_cons_zero, List.set_cons_succ, List.eraseIdx_cons_zero, List.eraseIdx_cons_succ] at hs ⊢
        exact fin _ _ _ (ht.both (by omega)) hs
      · exact fin _ _ _ (ht.one (by omega) hat) hs
    · refine br_eq (fun hk => ?_) (fun hk => ?_)
      · refine Disk_Sync_spec (k := 2) hs rfl ht.ok fun w hs => ?_
        simp only [nn_some, add_mk, Nat.zero_add, Nat.add_zero, Nat.reduceAdd, Nat.reduceMul, Option.isNone_some, Option.isNone_none, br_true, br_false, Bool.not_true, Bool.not_false, xI_eq, xB_eq, xS_eq, xP_eq, xL_eq, x0_eq, x2_eq, x3_eq, chk_eq, true_and, and_true, List.set_cons_zero, List.set_cons_succ, List.eraseIdx_cons_zero, List.eraseIdx_cons_succ] at hs ⊢
        refine Disk_Sync_spec (k := 1) hs rfl ht.ok2 fun w hs => ?_
        simp only [nn_some, add_mk, Nat.zero_add, Nat.add_zero, Nat.reduceAdd, Nat.reduceMul, Option.isNone_some, Option.isNone_none, br_true, br_false, Bool.not_true, Bool.not_false, xI_eq, xB_eq, xS_eq, xP_eq, xL_eq, x0_eq, x2_eq, x3_eq, chk_eq, true_and, and_true, List.set_cons_zero, List.set_cons_succ, List.eraseIdx_cons_zero, List.eraseIdx_cons_succ] at hs ⊢
        exact fin _ _ _ ht.sync hs
      · exact fin _ _ _ ht.more hs
  refine br_of (fun h1 => go _ (fun hf => by cases hf)) (fun h1 => ?_)
  refine br_dec (fun h2 => go _ (fun hf => by cases hf)) (fun h2 => ?_)
  refine br_dec (fun h3 => go _ (fun hf => by cases hf)) (fun h3 => ?_)
  exact go _ (fun hf => ⟨by omega, by omega, by have := of_decide_eq_false hf; omega, hb h1⟩)

theorem Apart_ok {a0 a2 : Int} {a1 : Option Addr} {n1 c1 : Nat} {x1 : List Value} (_ : (Lit.int .i64 a0).wf = true) (ro1 : Ro W a1 n1 5 x1) (el1 : Elems [.i .i64, .i .i64, .s, .i .u64, .i .i64] n1 x1) (mx1 : n1 ≤ maxLen) (_ : (Lit.int .i64 a2).wf = true) :
    bondstorelaw04_PlatterApart.u [.int .i64 a0, .slice a1 n1 c1, .int .i64 a2] (fun v w' => v = .bool true ∧ Below W.heap.size W w') W := by
  obtain ⟨cs, h1, h2, h3⟩ := elems_calls el1 ro1.1
  subst h2
  unfold bondstorelaw04_PlatterApart.u
  exact Apart_spec (K := fun v w' => v = .bool true ∧ Below W.heap.size W w') (St.start W) ro1 h1 mx1 h3 (fun w' h => ⟨rfl, h.below⟩)
end
end Go.Sep
