/- The law PlatterDoes. -/
import Derived.Test.YtidhimamegfdaaaLa3
namespace Go.Sep
open Go.Den Go.RowKit Go.Prog Go.Plat
set_option linter.unusedSimpArgs false
set_option linter.unusedVariables false

/-- Nothing has turned. -/
def isW (w w' : World) : Prop := w' = w

section
variable {W w : World} {L : List HP} {k d m : Nat} {D M : Disk}

theorem rNow_spec {i : Int} {K : VK} (h : St W w L) (hk : L[k]? = some (rdisk m M)) (hok : M.Ok) (hi : M.is i) (hK : K (.string (M.now i)) w) : bondstoreref04_Disk_Now (some ⟨m, 0, none⟩) i K w := by
  have hl := hok.less
  obtain ⟨sb, sc, ab, ac, tb, tc, hs⟩ := rdisk_open h hk
  have hlt : i.toNat < M.safe.length := by have := hi.1; have := hi.2; omega
  unfold bondstoreref04_Disk_Now
  simp only [nn_some, add_mk, Nat.zero_add, Nat.add_zero, Nat.reduceAdd, Nat.reduceMul, Option.isNone_some, Option.isNone_none, br_true, br_false, Bool.not_true, Bool.not_false, xI_eq, xB_eq, xS_eq, xP_eq, xL_eq, x0_eq, x2_eq, x3_eq, chk_eq, true_and, and_true, List.set_cons_zero, List.set_cons_succ, List.eraseIdx_cons_zero, List.eraseIdx_cons_succ]
  refine ld_pt (k := 0) hs rfl rfl ?_
  simp only [nn_some, add_mk, Nat.zero_add, Nat.add_zero, Nat.reduceAdd, Nat.reduceMul, Option.isNone_some, Option.isNone_none, br_true, br_false, Bool.not_true, Bool.not_false, xI_eq, xB_eq, xS_eq, xP_eq, xL_eq, x0_eq, x2_eq, x3_eq, chk_eq, true_and, and_true, List.set_cons_zero, List.set_cons_succ, List.eraseIdx_cons_zero, List.eraseIdx_cons_succ]
  refine ixs_own (k := 1) hs rfl hi fun r hr => ?_
  subst hr
  refine ld_own (k := 1) hs rfl (v := .string (M.safe[i.toNat])) (by simp [hlt]) ?_
  simp only [nn_some, add_mk, Nat.zero_add, Nat.add_zero, Nat.reduceAdd, Nat.reduceMul, Option.isNone_some, Option.isNone_none, br_true, br_false, Bool.not_true, Bool.not_false, xI_eq, xB_eq, xS_eq, xP_eq, xL_eq, x0_eq, x2_eq, x3_eq, chk_eq, true_and, and_true, List.set_cons_zero, List.set_cons_succ, List.eraseIdx_cons_zero, List.eraseIdx_cons_succ]
  refine ld_pt (k := 0) hs rfl rfl ?_
  simp only [nn_some, add_mk, Nat.zero_add, Nat.add_zero, Nat.reduceAdd, Nat.reduceMul, Option.isNone_some, Option.isNone_none, br_true, br_false, Bool.not_true, Bool.not_false, xI_eq, xB_eq, xS_eq, xP_eq, xL_eq, x0_eq, x2_eq, x3_eq, chk_eq, true_and, and_true, List.set_cons_zero, List.set_cons_succ, List.eraseIdx_cons_zero, List.eraseIdx_cons_succ]
  refine ⟨fun us w' => ∃ j : Nat, us = [.string .empty, .string ((Disk.last (M.later.take j) i).getD M.safe[i.toNat]), .slice ab M.later.length ac, .int .i64 M.later.length, .int .i64 j] ∧ j ≤ M.later.length ∧ isW w w',
    fun us _ => match us with | [_, _, _, _, .int _ j] => M.later.length - j.toNat | _ => 0, ⟨0, rfl, Nat.zero_le _, rfl⟩, ?_⟩
  rintro s2 s3 sb3 sn3 sc3 n2 n3 w2 ⟨j, he, hj, hw⟩
  obtain rfl : w2 = w := hw
  cases he
  refine br_dec (fun h0 => ?_) (fun h0 => ?_)
  · have hjl : j < M.later.length := by omega
    obtain ⟨p, hp⟩ : ∃ p, M.later[j]? = some p := ⟨M.later[j], by simp [hjl]⟩
    have hp1 : (M.later.map fun p => Value.int .i64 p.1)[(j : Int).toNat * 1]? = some (.int .i64 p.1) := by rw [Int.toNat_natCast, Nat.mul_one, List.getElem?_map, hp]; rfl
    have hp2 : (M.later.map fun p => Value.string p.2)[(j : Int).toNat * 1]? = some (.string p.2) := by rw [Int.toNat_natCast, Nat.mul_one, List.getElem?_map, hp]; rfl
    have e5 : IntKind.i64.wrap ((j : Int) + 1) = ((j + 1 : Nat) : Int) := by rw [wrap_id (by omega)]; omega
    have e6 : Disk.last (M.later.take (j + 1)) i = if p.1 = i then some p.2 else Disk.last (M.later.take j) i := by rw [take_succ_get hp, Dk.last_append]
    refine ixs_own (k := 2) hs rfl (by omega) fun r2 hr => ?_
    subst hr
    refine ld_own (k := 2) hs rfl hp1 ?_
    simp only [nn_some, add_mk, Nat.zero_add, Nat.add_zero, Nat.reduceAdd, Nat.reduceMul, Option.isNone_some, Option.isNone_none, br_true, br_false, Bool.not_true, Bool.not_false, xI_eq, xB_eq, xS_eq, xP_eq, xL_eq, x0_eq, x2_eq, x3_eq, chk_eq, true_and, and_true, List.set_cons_zero, List.set_cons_succ, List.eraseIdx_cons_zero, List.eraseIdx_cons_succ]
    rw [e5]
    refine br_eq (fun ht => ?_) (fun ht => ?_)
    · refine ld_pt (k := 0) hs rfl rfl ?_
      simp only [nn_some, add_mk, Nat.zero_add, Nat.add_zero, Nat.reduceAdd, Nat.reduceMul, Option.isNone_some, Option.isNone_none, br_true, br_false, Bool.not_true, Bool.not_false, xI_eq, xB_eq, xS_eq, xP_eq, xL_eq, x0_eq, x2_eq, x3_eq, chk_eq, true_and, and_true, List.set_cons_zero, List.set_cons_succ, List.eraseIdx_cons_zero, List.eraseIdx_cons_succ]
      refine ixs_own (k := 3) hs rfl (by omega) fun r3 hr => ?_
      subst hr
      refine ld_own (k := 3) hs rfl hp2 ?_
      simp only [nn_some, add_mk, Nat.zero_add, Nat.add_zero, Nat.reduceAdd, Nat.reduceMul, Option.isNone_some, Option.isNone_none, br_true, br_false, Bool.not_true, Bool.not_false, xI_eq, xB_eq, xS_eq, xP_eq, xL_eq, x0_eq, x2_eq, x3_eq, chk_eq, true_and, and_true, List.set_cons_zero, List.set_cons_succ, List.eraseIdx_cons_zero, List.eraseIdx_cons_succ]
      refine ⟨⟨j + 1, ?_, hjl, rfl⟩, by omega⟩
      rw [e6, if_pos ht]; rfl
    · refine ⟨⟨j + 1, ?_, hjl, rfl⟩, by omega⟩
      rw [e6, if_neg ht]
  · have : j = M.later.length := by omega
    subst this
    rw [List.take_length]
    have e : M.now i = (Disk.last M.later i).getD M.safe[i.toNat] := by
      unfold Disk.now; simp [hlt]
    rw [e] at hK; exact hK

theorem same_spec {j : Nat} {K : VK} (h : St W w (rdisk m M :: disk d D :: L)) (hsim : Sim j D M) (hK : ∀ w', St W w' (rdisk m M :: disk d D :: L) → K (.bool true) w') : bondstorelaw04_same (some ⟨d, 0, none⟩) (some ⟨m, 0, none⟩) K w := by
  unfold bondstorelaw04_same
  refine tick_of h fun w h => ?_
  obtain ⟨sb, sc, ab, ac, tb, tc, hs⟩ := rdisk_open (k := 0) h rfl
  have hle := hsim.ok.few
  simp only [nn_some, add_mk, Nat.zero_add, Nat.add_zero, Nat.reduceAdd, Nat.reduceMul, Option.isNone_some, Option.isNone_none, br_true, br_false, Bool.not_true, Bool.not_false, xI_eq, xB_eq, xS_eq, xP_eq, xL_eq, x0_eq, x2_eq, x3_eq, chk_eq, true_and, and_true, List.set_cons_zero, List.set_cons_succ, List.eraseIdx_cons_zero, List.eraseIdx_cons_succ]
  refine ld_pt (k := 0) hs rfl rfl ?_
  simp only [nn_some, add_mk, Nat.zero_add, Nat.add_zero, Nat.reduceAdd, Nat.reduceMul, Option.isNone_some, Option.isNone_none, br_true, br_false, Bool.not_true, Bool.not_false, xI_eq, xB_eq, xS_eq, xP_eq, xL_eq, x0_eq, x2_eq, x3_eq, chk_eq, true_and, and_true, List.set_cons_zero, List.set_cons_succ, List.eraseIdx_cons_zero, List.eraseIdx_cons_succ]
  refine Disk_Sectors_spec (k := 1) h rfl ?_
  simp only [nn_some, add_mk, Nat.zero_add, Nat.add_zero, Nat.reduceAdd, Nat.reduceMul, Option.isNone_some, Option.isNone_none, br_true, br_false, Bool.not_true, Bool.not_false, xI_eq, xB_eq, xS_eq, xP_eq, xL_eq, x0_eq, x2_eq, x3_eq, chk_eq, true_and, and_true, List.set_cons_zero, List.set_cons_succ, List.eraseIdx_cons_zero, List.eraseIdx_cons_succ]
  refine kp_one (k := 0) hs rfl rfl ?_
  have e1 : ((D.safe.length : Int) != (M.safe.length : Int)) = false := by rw [hsim.safe]; simp
  rw [e1]
  simp only [nn_some, add_mk, Nat.zero_add, Nat.add_zero, Nat.reduceAdd, Nat.reduceMul, Option.isNone_some, Option.isNone_none, br_true, br_false, Bool.not_true, Bool.not_false, xI_eq, xB_eq, xS_eq, xP_eq, xL_eq, x0_eq, x2_eq, x3_eq, chk_eq, true_and, and_true, List.set_cons_zero, List.set_cons_succ, List.eraseIdx_cons_zero, List.eraseIdx_cons_succ]
  refine ld_pt (k := 0) hs rfl rfl ?_
  simp only [nn_some, add_mk, Nat.zero_add, Nat.add_zero, Nat.reduceAdd, Nat.reduceMul, Option.isNone_some, Option.isNone_none, br_true, br_false, Bool.not_true, Bool.not_false, xI_eq, xB_eq, xS_eq, xP_eq, xL_eq, x0_eq, x2_eq, x3_eq, chk_eq, true_and, and_true, List.set_cons_zero, List.set_cons_succ, List.eraseIdx_cons_zero, List.eraseIdx_cons_succ]
  refine Disk_Later_spec (k := 1) h rfl ?_
  simp only [nn_some, add_mk, Nat.zero_add, Nat.add_zero, Nat.reduceAdd, Nat.reduceMul, Option.isNone_some, Option.isNone_none, br_true, br_false, Bool.not_true, Bool.not_false, xI_eq, xB_eq, xS_eq, xP_eq, xL_eq, x0_eq, x2_eq, x3_eq, chk_eq, true_and, and_true, List.set_cons_zero, List.set_cons_succ, List.eraseIdx_cons_zero, List.eraseIdx_cons_succ]
  refine kp_one (k := 0) hs rfl rfl ?_
  refine kp_one (k := 0) hs rfl rfl ?_
  have e2 : ((D.later.length : Int) != (M.later.length : Int)) = false := by rw [hsim.later]; simp
  rw [e2]
  simp only [nn_some, add_mk, Nat.zero_add, Nat.add_zero, Nat.reduceAdd, Nat.reduceMul, Option.isNone_some, Option.isNone_none, br_true, br_false, Bool.not_true, Bool.not_false, xI_eq, xB_eq, xS_eq, xP_eq, xL_eq, x0_eq, x2_eq, x3_eq, chk_eq, true_and, and_true, List.set_cons_zero, List.set_cons_succ, List.eraseIdx_cons_zero, List.eraseIdx_cons_succ]
  refine ld_pt (k := 0) hs rfl rfl ?_
  simp only [nn_some, add_mk, Nat.zero_add, Nat.add_zero, Nat.reduceAdd, Nat.reduceMul, Option.isNone_some, Option.isNone_none, br_true, br_false, Bool.not_true, Bool.not_false, xI_eq, xB_eq, xS_eq, xP_eq, xL_eq, x0_eq, x2_eq, x3_eq, chk_eq, true_and, and_true, List.set_cons_zero, List.set_cons_succ, List.eraseIdx_cons_zero, List.eraseIdx_cons_succ]
  refine Disk_Ops_spec (k := 1) h rfl ?_
  simp only [nn_some, add_mk, Nat.zero_add, Nat.add_zero, Nat.reduceAdd, Nat.reduceMul, Option.isNone_some, Option.isNone_none, br_true, br_false, Bool.not_true, Bool.not_false, xI_eq, xB_eq, xS_eq, xP_eq, xL_eq, x0_eq, x2_eq, x3_eq, chk_eq, true_and, and_true, List.set_cons_zero, List.set_cons_succ, List.eraseIdx_cons_zero, List.eraseIdx_cons_succ]
  refine kp_one (k := 0) hs rfl rfl ?_
  refine kp_one (k := 0) hs rfl rfl ?_
  refine kp_one (k := 0) hs rfl rfl ?_
  have e3 : (D.ops != M.ops) = false := by rw [hsim.ops]; simp
  rw [e3]
  unfold bondstorelaw04_same.j1
  simp only [nn_some, add_mk, Nat.zero_add, Nat.add_zero, Nat.reduceAdd, Nat.reduceMul, Option.isNone_some, Option.isNone_none, br_true, br_false, Bool.not_true, Bool.not_false, xI_eq, xB_eq, xS_eq, xP_eq, xL_eq, x0_eq, x2_eq, x3_eq, chk_eq, true_and, and_true, List.set_cons_zero, List.set_cons_succ, List.eraseIdx_cons_zero, List.eraseIdx_cons_succ]
  refine ld_pt (k := 0) hs rfl rfl ?_
  simp only [nn_some, add_mk, Nat.zero_add, Nat.add_zero, Nat.reduceAdd, Nat.reduceMul, Option.isNone_some, Option.isNone_none, br_true, br_false, Bool.not_true, Bool.not_false, xI_eq, xB_eq, xS_eq, xP_eq, xL_eq, x0_eq, x2_eq, x3_eq, chk_eq, true_and, and_true, List.set_cons_zero, List.set_cons_succ, List.eraseIdx_cons_zero, List.eraseIdx_cons_succ]
  refine ⟨fun us w' => ∃ j : Nat, us = [.bool false, .int .i64 M.safe.length, .int .i64 j] ∧ j ≤ M.safe.length ∧ isW w w',
    fun us _ => match us with | [_, _, .int _ j] => M.safe.length - j.toNat | _ => 0, ⟨0, rfl, Nat.zero_le _, rfl⟩, ?_⟩
  rintro b2 n1 n2 w2 ⟨i, he, hi, hw⟩
  obtain rfl : w2 = w := hw
  cases he
  refine br_dec (fun h0 => ?_) (fun h0 => hK _ h)
  have hiM : M.is i := ⟨by omega, by omega⟩
  have hiD : D.is i := ⟨by omega, by rw [← hsim.safe]; omega⟩
  refine Disk_Read_spec (k := 1) h rfl hsim.ok ?_
  have er : D.read i = (M.now i, 0) := by
    unfold Disk.read
    rw [if_pos hiD]
    unfold Disk.now
    rw [hsim.safe, hsim.later]
  rw [er]
  simp only [nn_some, add_mk, Nat.zero_add, Nat.add_zero, Nat.reduceAdd, Nat.reduceMul, Option.isNone_some, Option.isNone_none, br_true, br_false, Bool.not_true, Bool.not_false, xI_eq, xB_eq, xS_eq, xP_eq, xL_eq, x0_eq, x2_eq, x3_eq, chk_eq, true_and, and_true, List.set_cons_zero, List.set_cons_succ, List.eraseIdx_cons_zero, List.eraseIdx_cons_succ]
  refine br_ne (fun hh => absurd rfl hh) (fun _ => ?_)
  refine rNow_spec (k := 0) h rfl hsim.okM hiM ?_
  simp only [nn_some, add_mk, Nat.zero_add, Nat.add_zero, Nat.reduceAdd, Nat.reduceMul, Option.isNone_some, Option.isNone_none, br_true, br_false, Bool.not_true, Bool.not_false, xI_eq, xB_eq, xS_eq, xP_eq, xL_eq, x0_eq, x2_eq, x3_eq, chk_eq, true_and, and_true, List.set_cons_zero, List.set_cons_succ, List.eraseIdx_cons_zero, List.eraseIdx_cons_succ]
  rw [strEq_iff, decide_eq_true rfl]
  simp only [nn_some, add_mk, Nat.zero_add, Nat.add_zero, Nat.reduceAdd, Nat.reduceMul, Option.isNone_some, Option.isNone_none, br_true, br_false, Bool.not_true, Bool.not_false, xI_eq, xB_eq, xS_eq, xP_eq, xL_eq, x0_eq, x2_eq, x3_eq, chk_eq, true_and, and_true, List.set_cons_zero, List.set_cons_succ, List.eraseIdx_cons_zero, List.eraseIdx_cons_succ]
  have e5 : IntKind.i64.wrap ((i : Int) + 1) = ((i + 1 : Nat) : Int) := by
    have := hsim.okM.few
    rw [wrap_id (by omega)]; omega
  rw [e5]
  exact ⟨⟨i + 1, rfl, by omega, rfl⟩, by omega⟩

theorem Does_spec {n : Int} {sb : Option Addr} {sn sc : Nat} {cs : List PCall} {K : VK} (h : St W w L) (hr : Ro W sb sn 5 (cs.flatMap callCells)) (hl : cs.length = sn) (hmx : sn ≤ maxLen) (hok : ∀ c ∈ cs, c.Ok)
    (hK : ∀ w', St W w' L → K (.bool true) w') : bondstorelaw04_PlatterDoes n sb sn sc K w := by
  unfold bondstorelaw04_PlatterDoes
  refine alive_spec h fun w h => ?_
  simp only [nn_some, add_mk, Nat.zero_add, Nat.add_zero, Nat.reduceAdd, Nat.reduceMul, Option.isNone_some, Option.isNone_none, br_true, br_false, Bool.not_true, Bool.not_false, xI_eq, xB_eq, xS_eq, xP_eq, xL_eq, x0_eq, x2_eq, x3_eq, chk_eq, true_and, and_true, List.set_cons_zero, List.set_cons_succ, List.eraseIdx_cons_zero, List.eraseIdx_cons_succ]
  refine great_spec h hr hl hmx hok fun b w hb h => ?_
  simp only [nn_some, add_mk, Nat.zero_add, Nat.add_zero, Nat.reduceAdd, Nat.reduceMul, Option.isNone_some, Option.isNone_none, br_true, br_false, Bool.not_true, Bool.not_false, xI_eq, xB_eq, xS_eq, xP_eq, xL_eq, x0_eq, x2_eq, x3_eq, chk_eq, true_and, and_true, List.set_cons_zero, List.set_cons_succ, List.eraseIdx_cons_zero, List.eraseIdx_cons_succ]
  have go : ∀ b, (b = false → n ≤ 40 ∧ sn ≤ 80) → bondstorelaw04_PlatterDoes.j1 K n sb sn sc b w := fun b hb => by
    unfold bondstorelaw04_PlatterDoes.j1
    refine br_of (fun _ => hK w h) (fun hb2 => ?_)
    obtain ⟨h40, hsn⟩ := hb hb2
    refine New_spec h fun d w h => ?_
    simp only [nn_some, add_mk, Nat.zero_add, Nat.add_zero, Nat.reduceAdd, Nat.reduceMul, Option.isNone_some, Option.isNone_none, br_true, br_false, Bool.not_true, Bool.not_false, xI_eq, xB_eq, xS_eq, xP_eq, xL_eq, x0_eq, x2_eq, x3_eq, chk_eq, true_and, and_true, List.set_cons_zero, List.set_cons_succ, List.eraseIdx_cons_zero, List.eraseIdx_cons_succ]
    refine rNew_spec h (by omega) fun m w h => ?_
    simp only [nn_some, add_mk, Nat.zero_add, Nat.add_zero, Nat.reduceAdd, Nat.reduceMul, Option.isNone_some, Option.isNone_none, br_true, br_false, Bool.not_true, Bool.not_false, xI_eq, xB_eq, xS_eq, xP_eq, xL_eq, x0_eq, x2_eq, x3_eq, chk_eq, true_and, and_true, List.set_cons_zero, List.set_cons_succ, List.eraseIdx_cons_zero, List.eraseIdx_cons_succ]
    refine ⟨fun us w' => ∃ (j : Nat), us = [.bool false, .pointer (some ⟨d, 0, none⟩), .pointer (some ⟨m, 0, none⟩), .slice sb sn sc, .int .i64 sn, .int .i64 j] ∧ j ≤ sn ∧ ∃ D M, Sim j D M ∧ St W w' (rdisk m M :: disk d D :: L),
      fun us _ => match us with | [_, _, _, _, _, .int _ j] => sn - j.toNat | _ => 0, ⟨0, rfl, Nat.zero_le _, _, _, ?_, h⟩, ?_⟩
    · exact ⟨new_ok n, rfl, rfl, rfl, .inl ⟨rfl, Int.le_refl _, Int.le_refl _⟩, Nat.zero_le _⟩
    rintro b3 p3 p4 sb2 sn2 sc2 n2 n3 w2 ⟨j, he, hj, D, M, hsim, hs⟩
    cases he
    refine br_dec (fun hlt' => ?_) (fun _ => ?_)
    · have hlt : j < cs.length := by omega
      have hg : cs[j]? = some cs[j] := by simp [hlt]
      refine elem_ro (ys := callCells cs[j]) hs hr ⟨by omega, hlt'⟩ rfl rfl (callCells_one _) (fun i v hi => by rw [Int.toNat_natCast]; exact calls_get hg i v hi) fun r w hs => ?_
      refine ldN_pt (k := 0) (xs := callCells cs[j]) hs rfl rfl (fun i v hi => by rw [Nat.zero_add]; exact hi) ?_
      refine does_spec hs.drop (hok _ (List.getElem_mem hlt)) hsim (by omega) fun w D' M' hsim hs => ?_
      simp only [nn_some, add_mk, Nat.zero_add, Nat.add_zero, Nat.reduceAdd, Nat.reduceMul, Option.isNone_some, Option.isNone_none, br_true, br_false, Bool.not_true, Bool.not_false, xI_eq, xB_eq, xS_eq, xP_eq, xL_eq, x0_eq, x2_eq, x3_eq, chk_eq, true_and, and_true, List.set_cons_zero, List.set_cons_succ, List.eraseIdx_cons_zero, List.eraseIdx_cons_succ]
      refine same_spec hs hsim fun w hs => ?_
      simp only [nn_some, add_mk, Nat.zero_add, Nat.add_zero, Nat.reduceAdd, Nat.reduceMul, Option.isNone_some, Option.isNone_none, br_true, br_false, Bool.not_true, Bool.not_false, xI_eq, xB_eq, xS_eq, xP_eq, xL_eq, x0_eq, x2_eq, x3_eq, chk_eq, true_and, and_true, List.set_cons_zero, List.set_cons_succ, List.eraseIdx_cons_zero, List.eraseIdx_cons_succ]
      have e5 : IntKind.i64.wrap ((j : Int) + 1) = ((j + 1 : Nat) : Int) := by rw [wrap_id (by omega)]; omega
      rw [e5]
      exact ⟨⟨j + 1, rfl, by omega, D', M', hsim, hs⟩, by omega⟩
    · obtain ⟨sb, sc, ab, ac, tb, tc, hs2⟩ := rdisk_open (k := 0) hs rfl
      simp only [nn_some, add_mk, Nat.zero_add, Nat.add_zero, Nat.reduceAdd, Nat.reduceMul, Option.isNone_some, Option.isNone_none, br_true, br_false, Bool.not_true, Bool.not_false, xI_eq, xB_eq, xS_eq, xP_eq, xL_eq, x0_eq, x2_eq, x3_eq, chk_eq, true_and, and_true, List.set_cons_zero, List.set_cons_succ, List.eraseIdx_cons_zero, List.eraseIdx_cons_succ]
      refine ld_pt (k := 0) hs2 rfl rfl ?_
      simp only [nn_some, add_mk, Nat.zero_add, Nat.add_zero, Nat.reduceAdd, Nat.reduceMul, Option.isNone_some, Option.isNone_none, br_true, br_false, Bool.not_true, Bool.not_false, xI_eq, xB_eq, xS_eq, xP_eq, xL_eq, x0_eq, x2_eq, x3_eq, chk_eq, true_and, and_true, List.set_cons_zero, List.set_cons_succ, List.eraseIdx_cons_zero, List.eraseIdx_cons_succ]
      refine Disk_Read_spec (k := 1) hs rfl hsim.ok ?_
      have er : D.read (M.safe.length : Int) = (.empty, 1) := by
        unfold Disk.read
        rw [if_neg (fun hh => by have := hh.2; rw [hsim.safe] at this; omega)]
      rw [er]
      simp only [nn_some, add_mk, Nat.zero_add, Nat.add_zero, Nat.reduceAdd, Nat.reduceMul, Option.isNone_some, Option.isNone_none, br_true, br_false, Bool.not_true, Bool.not_false, xI_eq, xB_eq, xS_eq, xP_eq, xL_eq, x0_eq, x2_eq, x3_eq, chk_eq, true_and, and_true, List.set_cons_zero, List.set_cons_succ, List.eraseIdx_cons_zero, List.eraseIdx_cons_succ]
      refine Disk_Read_spec (k := 1) hs rfl hsim.ok ?_
      have er : D.read (-1) = (.empty, 1) := by
        unfold Disk.read
        rw [if_neg (fun hh => by have := hh.1; omega)]
      rw [er]
      unfold platter_Disk_Crash platter_Disk_Arm platter_Disk_Read platter_Disk_Write platter_Disk_Sync platter_Disk_Sectors platter_Disk_Later platter_Disk_Ops
      simp only [nn_some, add_mk, Nat.zero_add, Nat.add_zero, Nat.reduceAdd, Nat.reduceMul, Option.isNone_some, Option.isNone_none, br_true, br_false, Bool.not_true, Bool.not_false, xI_eq, xB_eq, xS_eq, xP_eq, xL_eq, x0_eq, x2_eq, x3_eq, chk_eq, true_and, and_true, List.set_cons_zero, List.set_cons_succ, List.eraseIdx_cons_zero, List.eraseIdx_cons_succ]
      simp only [beq_self_eq_true, br_true, xI_eq]
      have e0 : (IntKind.i64.wrap (IntKind.i64.wrap (0 + 0) + 0) == 0) = true := by decide
      rw [e0]
      exact hK _ hs.drop.drop
  refine br_of (fun h1 => go _ (fun hf => by cases hf)) (fun h1 => ?_)
  exact go _ (fun hf => ⟨by have := of_decide_eq_false hf; omega, hb h1⟩)

theorem Does_ok {a0 : Int} {a1 : Option Addr} {n1 c1 : Nat} {x1 : List Value} (_ : (Lit.int .i64 a0).wf = true) (ro1 : Ro W a1 n1 5 x1) (el1 : Elems [.i .i64, .i .i64, .s, .i .u64, .i .i64] n1 x1) (mx1 : n1 ≤ maxLen) :
    bondstorelaw04_PlatterDoes.u [.int .i64 a0, .slice a1 n1 c1] (fun v w' => v = .bool true ∧ Below W.heap.size W w') W := by
  obtain ⟨cs, h1, h2, h3⟩ := elems_calls el1 ro1.1
  subst h2
  unfold bondstorelaw04_PlatterDoes.u
  exact Does_spec (K := fun v w' => v = .bool true ∧ Below W.heap.size W w') (St.start W) ro1 h1 mx1 h3 (fun w' h => ⟨rfl, h.below⟩)
end
end Go.Sep
