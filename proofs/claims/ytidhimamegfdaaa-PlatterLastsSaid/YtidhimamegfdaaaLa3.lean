/- A disk and the document's disk, side by side. -/
import Derived.Test.YtidhimamegfdaaaLa2
namespace Go.Sep
open Go.Den Go.RowKit Go.Prog Go.Plat
set_option linter.unusedSimpArgs false
set_option linter.unusedVariables false

structure Sim (j : Nat) (D M : Disk) : Prop where
  ok : D.Ok
  safe : M.safe = D.safe
  later : M.later = D.later
  ops : M.ops = D.ops
  arm : (D.arm = 0 ∧ -(j : Int) ≤ M.arm ∧ M.arm ≤ 0) ∨ (0 < D.arm ∧ D.arm ≤ 9223372036854775807 ∧ M.arm = D.arm)
  few : D.later.length ≤ j

theorem Sim.okM {j : Nat} {D M : Disk} (h : Sim j D M) : M.Ok :=
  ⟨by rw [h.safe]; exact h.ok.safe, by rw [h.safe, h.later]; exact h.ok.later, by rw [h.safe]; exact h.ok.few, by rw [h.later]; exact h.ok.less⟩

theorem Sim.more {j : Nat} {D M : Disk} (h : Sim j D M) : Sim (j + 1) D M :=
  ⟨h.ok, h.safe, h.later, h.ops, by rcases h.arm with ⟨a, b, c⟩ | a
                                    · exact .inl ⟨a, by omega, c⟩
                                    · exact .inr a, Nat.le_succ_of_le h.few⟩

theorem Sim.fails {j : Nat} {D M : Disk} (h : Sim j D M) (hj : j < 1000) : Rk.fails M = D.fails := by
  unfold Rk.fails Disk.fails
  rcases h.arm with ⟨a, b, c⟩ | ⟨a, b, c⟩
  · rw [a, wrap_id (by omega)]
    have : (M.arm - 1 == 0) = false := by simp; omega
    rw [this]; rfl
  · rw [c]
    have : (D.arm == 0) = false := by simp; omega
    rw [this]; rfl

theorem Sim.tick {j : Nat} {D M : Disk} (h : Sim j D M) (hj : j < 1000) : Sim (j + 1) D.tick (Rk.tick M) := by
  refine ⟨⟨h.ok.safe, h.ok.later, h.ok.few, h.ok.less⟩, h.safe, h.later, by simp only [Rk.tick, Disk.tick, h.ops], ?_, Nat.le_succ_of_le h.few⟩
  simp only [Rk.tick, Disk.tick]
  rcases h.arm with ⟨a, b, c⟩ | ⟨a, b, c⟩
  · have e : IntKind.i64.wrap (M.arm - 1) = M.arm - 1 := wrap_id (by omega)
    rw [a, e]
    exact .inl ⟨by rw [if_pos rfl], by omega, by omega⟩
  · rw [c, if_neg (by omega), wrap_id (by omega)]
    by_cases h1 : D.arm = 1
    · exact .inl ⟨by omega, by omega, by omega⟩
    · exact .inr ⟨by omega, by omega, rfl⟩

theorem Sim.write {j : Nat} {D M : Disk} (h : Sim j D M) (hj : j < 1000) (i : Int) (s : ByteArray) : Sim (j + 1) (D.write i s).1 (Rk.write M i s).1 ∧ (D.write i s).2 = (Rk.write M i s).2 := by
  have hi : M.is i ↔ D.is i := by unfold Disk.is; rw [h.safe]
  have ht := h.tick hj
  have hw := write_ok h.ok i s (by have := h.few; omega)
  unfold Disk.write at hw ⊢
  unfold Rk.write
  rw [h.fails hj]
  by_cases hg : ¬ D.is i ∨ 128 < s.size
  · have hgM : ¬ M.is i ∨ 128 < s.size := by rw [hi]; exact hg
    rw [if_pos hg, if_pos hgM]
    exact ⟨h.more, rfl⟩
  · have hgM : ¬ (¬ M.is i ∨ 128 < s.size) := by rw [hi]; exact hg
    rw [if_neg hg] at hw ⊢
    rw [if_neg hgM]
    by_cases hf : D.fails = true
    · rw [if_pos hf, if_pos hf]; exact ⟨ht, rfl⟩
    · rw [if_neg hf] at hw ⊢
      rw [if_neg hf]
      exact ⟨⟨hw, h.safe, by show M.later ++ _ = D.later ++ _; rw [h.later], ht.ops, ht.arm, by show (D.later ++ _).length ≤ _; have := h.few; simp; omega⟩, rfl⟩

theorem Sim.sync {j : Nat} {D M : Disk} (h : Sim j D M) (hj : j < 1000) : Sim (j + 1) D.sync.1 (Rk.sync M).1 ∧ D.sync.2 = (Rk.sync M).2 := by
  have ht := h.tick hj
  have hs := sync_ok h.ok
  unfold Disk.sync at hs ⊢
  unfold Rk.sync
  rw [h.fails hj]
  by_cases hf : D.fails = true
  · rw [if_pos hf, if_pos hf]; exact ⟨ht, rfl⟩
  · rw [if_neg hf] at hs ⊢
    rw [if_neg hf]
    exact ⟨⟨hs, by show M.later.foldl _ M.safe = D.later.foldl _ D.safe; rw [h.later, h.safe], rfl, ht.ops, ht.arm, Nat.zero_le _⟩, rfl⟩

theorem Sim.crash {j : Nat} {D M : Disk} (h : Sim j D M) (mask torn cut : Int) : Sim (j + 1) (D.crash mask torn cut) { Rk.crash M mask torn cut with arm := 0 } := by
  have hc := crash_ok h.ok mask torn cut
  rw [crash_eq] at hc ⊢
  exact ⟨hc, by show crashed _ _ _ M.safe M.later M.later.length = _; rw [h.safe, h.later], rfl, h.ops, .inl ⟨rfl, by show _ ≤ (0 : Int); omega, Int.le_refl _⟩, Nat.zero_le _⟩

theorem Sim.armed {j : Nat} {D M : Disk} (h : Sim j D M) {n : Int} (hn : (Lit.int .i64 n).wf = true) : Sim (j + 1) (D.armed n) { M with arm := max2 n 0 } := by
  have hn' : n ≤ 9223372036854775807 := by
    simp [Lit.wf, IntKind.min, IntKind.max, IntKind.signed, IntKind.bits] at hn; omega
  refine ⟨armed_ok h.ok n, h.safe, h.later, h.ops, ?_, Nat.le_succ_of_le h.few⟩
  show (max2 n 0 = 0 ∧ -((j + 1 : Nat) : Int) ≤ max2 n 0 ∧ max2 n 0 ≤ 0) ∨ (0 < max2 n 0 ∧ max2 n 0 ≤ 9223372036854775807 ∧ max2 n 0 = max2 n 0)
  by_cases h0 : 0 < n
  · have e : max2 n 0 = n := by unfold max2; rw [if_neg (by omega)]
    rw [e]
    exact .inr ⟨h0, hn', rfl⟩
  · have e : max2 n 0 = 0 := by unfold max2; split <;> omega
    rw [e]
    exact .inl ⟨rfl, by omega, Int.le_refl _⟩

section
variable {W w : World} {L : List HP} {d m : Nat} {D M : Disk}

theorem rset_arm {a : Int} {K : WK} (h : St W w (rdisk m M :: L)) (hK : ∀ w', St W w' (rdisk m { M with arm := a } :: L) → K w') : st ⟨m, 4, none⟩ (.int .i64 a) K w := by
  obtain ⟨sb, sc, ab, ac, tb, tc, hs⟩ := rdisk_open (k := 0) h rfl
  refine st_pt (k := 0) hs rfl (Nat.le_of_ble_eq_true rfl) rfl fun w hs => ?_
  simp only [nn_some, add_mk, Nat.zero_add, Nat.add_zero, Nat.reduceAdd, Nat.reduceMul, Option.isNone_some, Option.isNone_none, br_true, br_false, Bool.not_true, Bool.not_false, xI_eq, xB_eq, xS_eq, xP_eq, xL_eq, x0_eq, x2_eq, x3_eq, chk_eq, true_and, and_true, List.set_cons_zero, List.set_cons_succ, List.eraseIdx_cons_zero, List.eraseIdx_cons_succ] at hs
  exact hK w (rdisk_close (L := rdisk m M :: L) (k := 0) (A := rdisk m M) (safe := M.safe) (later := M.later) (ops := M.ops) (arm := a) rfl rfl rfl hs)

theorem does_spec {c : PCall} {j : Nat} {K : VK} (h : St W w (rdisk m M :: disk d D :: L)) (hc : c.Ok) (hsim : Sim j D M) (hj : j < 1000)
    (hK : ∀ w' D' M', Sim (j + 1) D' M' → D'.safe.length = D.safe.length → St W w' (rdisk m M' :: disk d D' :: L) → K (.bool true) w') : bondstorelaw04_does (some ⟨d, 0, none⟩) (some ⟨m, 0, none⟩) (callCells c) K w := by
  unfold bondstorelaw04_does
  refine mk_of h fun r w hs => ?_
  simp only [nn_some, add_mk, Nat.zero_add, Nat.add_zero, Nat.reduceAdd, Nat.reduceMul, Option.isNone_some, Option.isNone_none, br_true, br_false, Bool.not_true, Bool.not_false, xI_eq, xB_eq, xS_eq, xP_eq, xL_eq, x0_eq, x2_eq, x3_eq, chk_eq, true_and, and_true, List.set_cons_zero, List.set_cons_succ, List.eraseIdx_cons_zero, List.eraseIdx_cons_succ]
  refine ld_pt (k := 0) hs rfl rfl ?_
  simp only [nn_some, add_mk, Nat.zero_add, Nat.add_zero, Nat.reduceAdd, Nat.reduceMul, Option.isNone_some, Option.isNone_none, br_true, br_false, Bool.not_true, Bool.not_false, xI_eq, xB_eq, xS_eq, xP_eq, xL_eq, x0_eq, x2_eq, x3_eq, chk_eq, true_and, and_true, List.set_cons_zero, List.set_cons_succ, List.eraseIdx_cons_zero, List.eraseIdx_cons_succ]
  refine br_eq (fun hk => ?_) (fun hk => ?_)
  · refine tick_of hs fun w hs => ?_
    refine ld_pt (k := 0) hs rfl rfl ?_
    simp only [nn_some, add_mk, Nat.zero_add, Nat.add_zero, Nat.reduceAdd, Nat.reduceMul, Option.isNone_some, Option.isNone_none, br_true, br_false, Bool.not_true, Bool.not_false, xI_eq, xB_eq, xS_eq, xP_eq, xL_eq, x0_eq, x2_eq, x3_eq, chk_eq, true_and, and_true, List.set_cons_zero, List.set_cons_succ, List.eraseIdx_cons_zero, List.eraseIdx_cons_succ]
    refine ld_pt (k := 0) hs rfl rfl ?_
    simp only [nn_some, add_mk, Nat.zero_add, Nat.add_zero, Nat.reduceAdd, Nat.reduceMul, Option.isNone_some, Option.isNone_none, br_true, br_false, Bool.not_true, Bool.not_false, xI_eq, xB_eq, xS_eq, xP_eq, xL_eq, x0_eq, x2_eq, x3_eq, chk_eq, true_and, and_true, List.set_cons_zero, List.set_cons_succ, List.eraseIdx_cons_zero, List.eraseIdx_cons_succ]
    refine ld_pt (k := 0) hs rfl rfl ?_
    simp only [nn_some, add_mk, Nat.zero_add, Nat.add_zero, Nat.reduceAdd, Nat.reduceMul, Option.isNone_some, Option.isNone_none, br_true, br_false, Bool.not_true, Bool.not_false, xI_eq, xB_eq, xS_eq, xP_eq, xL_eq, x0_eq, x2_eq, x3_eq, chk_eq, true_and, and_true, List.set_cons_zero, List.set_cons_succ, List.eraseIdx_cons_zero, List.eraseIdx_cons_succ]
    refine ld_pt (k := 0) hs rfl rfl ?_
    simp only [nn_some, add_mk, Nat.zero_add, Nat.add_zero, Nat.reduceAdd, Nat.reduceMul, Option.isNone_some, Option.isNone_none, br_true, br_false, Bool.not_true, Bool.not_false, xI_eq, xB_eq, xS_eq, xP_eq, xL_eq, x0_eq, x2_eq, x3_eq, chk_eq, true_and, and_true, List.set_cons_zero, List.set_cons_succ, List.eraseIdx_cons_zero, List.eraseIdx_cons_succ]
    refine Disk_Write_spec (k := 2) hs rfl hsim.ok fun w hs => ?_
    simp only [nn_some, add_mk, Nat.zero_add, Nat.add_zero, Nat.reduceAdd, Nat.reduceMul, Option.isNone_some, Option.isNone_none, br_true, br_false, Bool.not_true, Bool.not_false, xI_eq, xB_eq, xS_eq, xP_eq, xL_eq, x0_eq, x2_eq, x3_eq, chk_eq, true_and, and_true, List.set_cons_zero, List.set_cons_succ, List.eraseIdx_cons_zero, List.eraseIdx_cons_succ] at hs ⊢
    refine kp_one (k := 0) hs rfl rfl ?_
    refine kp_one (k := 0) hs rfl rfl ?_
    refine rWrite_spec (k := 1) hs rfl hsim.okM fun w hs => ?_
    simp only [nn_some, add_mk, Nat.zero_add, Nat.add_zero, Nat.reduceAdd, Nat.reduceMul, Option.isNone_some, Option.isNone_none, br_true, br_false, Bool.not_true, Bool.not_false, xI_eq, xB_eq, xS_eq, xP_eq, xL_eq, x0_eq, x2_eq, x3_eq, chk_eq, true_and, and_true, List.set_cons_zero, List.set_cons_succ, List.eraseIdx_cons_zero, List.eraseIdx_cons_succ] at hs ⊢
    obtain ⟨h1, h2⟩ := hsim.write hj c.n c.data
    rw [h2, beq_self_eq_true]
    exact hK w _ _ h1 (by rw [(write_len _ _ _).1]) hs.drop
  refine br_eq (fun hk => ?_) (fun hk => ?_)
  · refine Disk_Sync_spec (k := 2) hs rfl hsim.ok fun w hs => ?_
    simp only [nn_some, add_mk, Nat.zero_add, Nat.add_zero, Nat.reduceAdd, Nat.reduceMul, Option.isNone_some, Option.isNone_none, br_true, br_false, Bool.not_true, Bool.not_false, xI_eq, xB_eq, xS_eq, xP_eq, xL_eq, x0_eq, x2_eq, x3_eq, chk_eq, true_and, and_true, List.set_cons_zero, List.set_cons_succ, List.eraseIdx_cons_zero, List.eraseIdx_cons_succ] at hs ⊢
    refine rSync_spec (k := 1) hs rfl hsim.okM fun w hs => ?_
    simp only [nn_some, add_mk, Nat.zero_add, Nat.add_zero, Nat.reduceAdd, Nat.reduceMul, Option.isNone_some, Option.isNone_none, br_true, br_false, Bool.not_true, Bool.not_false, xI_eq, xB_eq, xS_eq, xP_eq, xL_eq, x0_eq, x2_eq, x3_eq, chk_eq, true_and, and_true, List.set_cons_zero, List.set_cons_succ, List.eraseIdx_cons_zero, List.eraseIdx_cons_succ] at hs ⊢
    obtain ⟨h1, h2⟩ := hsim.sync hj
    rw [h2, beq_self_eq_true]
    exact hK w _ _ h1 Dk.sync_len.1 hs.drop
  refine br_eq (fun hk => ?_) (fun hk => ?_)
  · refine ld_pt (k := 0) hs rfl rfl ?_
    simp only [nn_some, add_mk, Nat.zero_add, Nat.add_zero, Nat.reduceAdd, Nat.reduceMul, Option.isNone_some, Option.isNone_none, br_true, br_false, Bool.not_true, Bool.not_false, xI_eq, xB_eq, xS_eq, xP_eq, xL_eq, x0_eq, x2_eq, x3_eq, chk_eq, true_and, and_true, List.set_cons_zero, List.set_cons_succ, List.eraseIdx_cons_zero, List.eraseIdx_cons_succ]
    refine ld_pt (k := 0) hs rfl rfl ?_
    simp only [nn_some, add_mk, Nat.zero_add, Nat.add_zero, Nat.reduceAdd, Nat.reduceMul, Option.isNone_some, Option.isNone_none, br_true, br_false, Bool.not_true, Bool.not_false, xI_eq, xB_eq, xS_eq, xP_eq, xL_eq, x0_eq, x2_eq, x3_eq, chk_eq, true_and, and_true, List.set_cons_zero, List.set_cons_succ, List.eraseIdx_cons_zero, List.eraseIdx_cons_succ]
    refine ld_pt (k := 0) hs rfl rfl ?_
    simp only [nn_some, add_mk, Nat.zero_add, Nat.add_zero, Nat.reduceAdd, Nat.reduceMul, Option.isNone_some, Option.isNone_none, br_true, br_false, Bool.not_true, Bool.not_false, xI_eq, xB_eq, xS_eq, xP_eq, xL_eq, x0_eq, x2_eq, x3_eq, chk_eq, true_and, and_true, List.set_cons_zero, List.set_cons_succ, List.eraseIdx_cons_zero, List.eraseIdx_cons_succ]
    refine Disk_Crash_spec (k := 2) hs rfl hsim.ok fun w hs => ?_
    simp only [nn_some, add_mk, Nat.zero_add, Nat.add_zero, Nat.reduceAdd, Nat.reduceMul, Option.isNone_some, Option.isNone_none, br_true, br_false, Bool.not_true, Bool.not_false, xI_eq, xB_eq, xS_eq, xP_eq, xL_eq, x0_eq, x2_eq, x3_eq, chk_eq, true_and, and_true, List.set_cons_zero, List.set_cons_succ, List.eraseIdx_cons_zero, List.eraseIdx_cons_succ] at hs ⊢
    refine ld_pt (k := 0) hs rfl rfl ?_
    simp only [nn_some, add_mk, Nat.zero_add, Nat.add_zero, Nat.reduceAdd, Nat.reduceMul, Option.isNone_some, Option.isNone_none, br_true, br_false, Bool.not_true, Bool.not_false, xI_eq, xB_eq, xS_eq, xP_eq, xL_eq, x0_eq, x2_eq, x3_eq, chk_eq, true_and, and_true, List.set_cons_zero, List.set_cons_succ, List.eraseIdx_cons_zero, List.eraseIdx_cons_succ]
    refine ld_pt (k := 0) hs rfl rfl ?_
    simp only [nn_some, add_mk, Nat.zero_add, Nat.add_zero, Nat.reduceAdd, Nat.reduceMul, Option.isNone_some, Option.isNone_none, br_true, br_false, Bool.not_true, Bool.not_false, xI_eq, xB_eq, xS_eq, xP_eq, xL_eq, x0_eq, x2_eq, x3_eq, chk_eq, true_and, and_true, List.set_cons_zero, List.set_cons_succ, List.eraseIdx_cons_zero, List.eraseIdx_cons_succ]
    refine ld_pt (k := 0) hs rfl rfl ?_
    simp only [nn_some, add_mk, Nat.zero_add, Nat.add_zero, Nat.reduceAdd, Nat.reduceMul, Option.isNone_some, Option.isNone_none, br_true, br_false, Bool.not_true, Bool.not_false, xI_eq, xB_eq, xS_eq, xP_eq, xL_eq, x0_eq, x2_eq, x3_eq, chk_eq, true_and, and_true, List.set_cons_zero, List.set_cons_succ, List.eraseIdx_cons_zero, List.eraseIdx_cons_succ]
    refine rCrash_spec (k := 1) hs rfl hsim.okM hc.mask fun w hs => ?_
    simp only [nn_some, add_mk, Nat.zero_add, Nat.add_zero, Nat.reduceAdd, Nat.reduceMul, Option.isNone_some, Option.isNone_none, br_true, br_false, Bool.not_true, Bool.not_false, xI_eq, xB_eq, xS_eq, xP_eq, xL_eq, x0_eq, x2_eq, x3_eq, chk_eq, true_and, and_true, List.set_cons_zero, List.set_cons_succ, List.eraseIdx_cons_zero, List.eraseIdx_cons_succ] at hs ⊢
    refine rset_arm hs.drop fun w hs => ?_
    exact hK w _ _ (hsim.crash c.mask c.n c.cut) (by rw [crash_eq]; exact crashed_length _ _ _ _ _ _) hs
  refine br_eq (fun hk => ?_) (fun hk => ?_)
  · refine ld_pt (k := 0) hs rfl rfl ?_
    simp only [nn_some, add_mk, Nat.zero_add, Nat.add_zero, Nat.reduceAdd, Nat.reduceMul, Option.isNone_some, Option.isNone_none, br_true, br_false, Bool.not_true, Bool.not_false, xI_eq, xB_eq, xS_eq, xP_eq, xL_eq, x0_eq, x2_eq, x3_eq, chk_eq, true_and, and_true, List.set_cons_zero, List.set_cons_succ, List.eraseIdx_cons_zero, List.eraseIdx_cons_succ]
    refine Disk_Arm_spec (k := 2) hs rfl fun w hs => ?_
    simp only [nn_some, add_mk, Nat.zero_add, Nat.add_zero, Nat.reduceAdd, Nat.reduceMul, Option.isNone_some, Option.isNone_none, br_true, br_false, Bool.not_true, Bool.not_false, xI_eq, xB_eq, xS_eq, xP_eq, xL_eq, x0_eq, x2_eq, x3_eq, chk_eq, true_and, and_true, List.set_cons_zero, List.set_cons_succ, List.eraseIdx_cons_zero, List.eraseIdx_cons_succ] at hs ⊢
    refine ld_pt (k := 0) hs rfl rfl ?_
    simp only [nn_some, add_mk, Nat.zero_add, Nat.add_zero, Nat.reduceAdd, Nat.reduceMul, Option.isNone_some, Option.isNone_none, br_true, br_false, Bool.not_true, Bool.not_false, xI_eq, xB_eq, xS_eq, xP_eq, xL_eq, x0_eq, x2_eq, x3_eq, chk_eq, true_and, and_true, List.set_cons_zero, List.set_cons_succ, List.eraseIdx_cons_zero, List.eraseIdx_cons_succ]
    refine rset_arm hs.drop fun w hs => ?_
    exact hK w _ _ (hsim.armed hc.n) rfl hs
  · exact hK w _ _ hsim.more rfl hs.drop
end
end Go.Sep
