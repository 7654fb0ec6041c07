/- A disk in memory; its calls: Read, New. -/
import Derived.Test.YtidhimamegfdaaaDoorPlat2
namespace Go.Sep
open Go.Den Go.RowKit Go.Prog Go.Plat
set_option linter.unusedSimpArgs false
set_option linter.unusedVariables false

theorem wrap_id {n : Int} (h : -9223372036854775808 ≤ n ∧ n ≤ 9223372036854775807) : IntKind.i64.wrap n = n := by
  simp only [IntKind.wrap, IntKind.bits, IntKind.signed, Bool.true_and, decide_eq_true_eq, Int.reducePow, Nat.reduceSub, ge_iff_le]
  split <;> omega

theorem last_append (l m : List (Int × ByteArray)) (i : Int) : Disk.last (l ++ m) i = (Disk.last m i).or (Disk.last l i) := by
  unfold Disk.last
  rw [List.reverse_append, List.find?_append]
  cases List.find? (fun p => p.1 == i) m.reverse <;> simp

theorem last_cons (p : Int × ByteArray) (l : List (Int × ByteArray)) (i : Int) : Disk.last (p :: l) i = (Disk.last l i).or (if p.1 == i then some p.2 else none) := by
  rw [show p :: l = [p] ++ l from rfl, last_append]
  congr 1
  simp only [Disk.last, List.reverse_singleton, List.find?_cons, List.find?_nil]
  cases h : (p.1 == i) <;> simp

section
variable {W w : World} {L : List HP} {k d : Nat} {D : Disk}

theorem drop_cons {α : Type} {l : List α} {j : Nat} {p : α} (h : l[j]? = some p) : l.drop j = p :: l.drop (j + 1) := by
  obtain ⟨hj, he⟩ := List.getElem?_eq_some_iff.1 h
  rw [← he]; exact List.drop_eq_getElem_cons hj

theorem Disk_Read_spec {i : Int} {K : VK} (h : St W w L) (hk : L[k]? = some (disk d D)) (hok : D.Ok) (hK : K (.tuple ⟨[.string (D.read i).1, .int .i64 (D.read i).2]⟩) w) : platter_Disk_Read (some ⟨d, 0, none⟩) i K w := by
  obtain ⟨sb, sc, lb, lc, hs⟩ := disk_open h hk
  have hl := hok.less
  unfold platter_Disk_Read
  simp only [nn_some, add_mk, Nat.zero_add, Nat.add_zero, Nat.reduceAdd, Nat.reduceMul, Option.isNone_some, Option.isNone_none, br_true, br_false, Bool.not_true, Bool.not_false, xI_eq, xB_eq, xS_eq, xP_eq, xL_eq, x0_eq, x2_eq, x3_eq, chk_eq, true_and, and_true, List.set_cons_zero, List.set_cons_succ, List.eraseIdx_cons_zero, List.eraseIdx_cons_succ]
  refine Disk_is_spec h hk ?_
  simp only [nn_some, add_mk, Nat.zero_add, Nat.add_zero, Nat.reduceAdd, Nat.reduceMul, Option.isNone_some, Option.isNone_none, br_true, br_false, Bool.not_true, Bool.not_false, xI_eq, xB_eq, xS_eq, xP_eq, xL_eq, x0_eq, x2_eq, x3_eq, chk_eq, true_and, and_true, List.set_cons_zero, List.set_cons_succ, List.eraseIdx_cons_zero, List.eraseIdx_cons_succ]
  by_cases hi : D.is i
  case neg =>
    rw [decide_eq_false hi]
    simp only [nn_some, add_mk, Nat.zero_add, Nat.add_zero, Nat.reduceAdd, Nat.reduceMul, Option.isNone_some, Option.isNone_none, br_true, br_false, Bool.not_true, Bool.not_false, xI_eq, xB_eq, xS_eq, xP_eq, xL_eq, x0_eq, x2_eq, x3_eq, chk_eq, true_and, and_true, List.set_cons_zero, List.set_cons_succ, List.eraseIdx_cons_zero, List.eraseIdx_cons_succ]
    have e : D.read i = (.empty, 1) := by simp [Disk.read, hi]
    rw [e] at hK; exact hK
  rw [decide_eq_true hi]
  simp only [nn_some, add_mk, Nat.zero_add, Nat.add_zero, Nat.reduceAdd, Nat.reduceMul, Option.isNone_some, Option.isNone_none, br_true, br_false, Bool.not_true, Bool.not_false, xI_eq, xB_eq, xS_eq, xP_eq, xL_eq, x0_eq, x2_eq, x3_eq, chk_eq, true_and, and_true, List.set_cons_zero, List.set_cons_succ, List.eraseIdx_cons_zero, List.eraseIdx_cons_succ]
  have e : D.read i = (D.now i, 0) := by simp [Disk.read, hi]
  rw [e] at hK
  refine ld_pt (k := 0) hs rfl rfl ?_
  simp only [nn_some, add_mk, Nat.zero_add, Nat.add_zero, Nat.reduceAdd, Nat.reduceMul, Option.isNone_some, Option.isNone_none, br_true, br_false, Bool.not_true, Bool.not_false, xI_eq, xB_eq, xS_eq, xP_eq, xL_eq, x0_eq, x2_eq, x3_eq, chk_eq, true_and, and_true, List.set_cons_zero, List.set_cons_succ, List.eraseIdx_cons_zero, List.eraseIdx_cons_succ]
  refine ⟨fun us w' => ∃ j : Nat, us = [.string .empty, .int .i64 0, .int .i64 ((j : Int) - 1)] ∧ w' = w ∧ j ≤ D.later.length ∧ Disk.last (D.later.drop j) i = none,
    fun us _ => match us with | [_, _, .int _ n] => (n + 1).toNat | _ => 0, ⟨D.later.length, by rw [wrap_id (by omega)], rfl, Nat.le_refl _, by simp [Disk.last]⟩, ?_⟩
  rintro s1 n2 n3 w2 ⟨j, he, rfl, hj, hn⟩
  cases he
  refine br_dec (fun h0 => ?_) (fun h0 => ?_)
  · obtain ⟨m, rfl⟩ : ∃ m, j = m + 1 := ⟨j - 1, by omega⟩
    have hlt : m < D.later.length := by omega
    obtain ⟨p, hp⟩ : ∃ p, D.later[m]? = some p := ⟨D.later[m], by simp [hlt]⟩
    obtain ⟨hp1, hp2⟩ := laterCells_get _ _ _ hp
    have em : ((m + 1 : Nat) : Int) - 1 = (m : Int) := by omega
    rw [em]
    refine ld_pt (k := 0) hs rfl rfl ?_
    simp only [nn_some, add_mk, Nat.zero_add, Nat.add_zero, Nat.reduceAdd, Nat.reduceMul, Option.isNone_some, Option.isNone_none, br_true, br_false, Bool.not_true, Bool.not_false, xI_eq, xB_eq, xS_eq, xP_eq, xL_eq, x0_eq, x2_eq, x3_eq, chk_eq, true_and, and_true, List.set_cons_zero, List.set_cons_succ, List.eraseIdx_cons_zero, List.eraseIdx_cons_succ]
    refine ixs_own (k := 2) hs rfl (by omega) fun r hr => ?_
    subst hr
    simp only [nn_some, add_mk, Nat.zero_add, Nat.add_zero, Nat.reduceAdd, Nat.reduceMul, Option.isNone_some, Option.isNone_none, br_true, br_false, Bool.not_true, Bool.not_false, xI_eq, xB_eq, xS_eq, xP_eq, xL_eq, x0_eq, x2_eq, x3_eq, chk_eq, true_and, and_true, List.set_cons_zero, List.set_cons_succ, List.eraseIdx_cons_zero, List.eraseIdx_cons_succ]
    refine ld_own (k := 2) hs rfl (v := .int .i64 p.1) (by rw [Int.toNat_natCast]; exact hp1) ?_
    simp only [nn_some, add_mk, Nat.zero_add, Nat.add_zero, Nat.reduceAdd, Nat.reduceMul, Option.isNone_some, Option.isNone_none, br_true, br_false, Bool.not_true, Bool.not_false, xI_eq, xB_eq, xS_eq, xP_eq, xL_eq, x0_eq, x2_eq, x3_eq, chk_eq, true_and, and_true, List.set_cons_zero, List.set_cons_succ, List.eraseIdx_cons_zero, List.eraseIdx_cons_succ]
    refine br_eq (fun h1 => ?_) (fun h1 => ?_)
    · refine ld_pt (k := 0) hs rfl rfl ?_
      simp only [nn_some, add_mk, Nat.zero_add, Nat.add_zero, Nat.reduceAdd, Nat.reduceMul, Option.isNone_some, Option.isNone_none, br_true, br_false, Bool.not_true, Bool.not_false, xI_eq, xB_eq, xS_eq, xP_eq, xL_eq, x0_eq, x2_eq, x3_eq, chk_eq, true_and, and_true, List.set_cons_zero, List.set_cons_succ, List.eraseIdx_cons_zero, List.eraseIdx_cons_succ]
      refine ixs_own (k := 2) hs rfl (by omega) fun r' hr' => ?_
      cases hr'
      simp only [nn_some, add_mk, Nat.zero_add, Nat.add_zero, Nat.reduceAdd, Nat.reduceMul, Option.isNone_some, Option.isNone_none, br_true, br_false, Bool.not_true, Bool.not_false, xI_eq, xB_eq, xS_eq, xP_eq, xL_eq, x0_eq, x2_eq, x3_eq, chk_eq, true_and, and_true, List.set_cons_zero, List.set_cons_succ, List.eraseIdx_cons_zero, List.eraseIdx_cons_succ]
      refine ld_own (k := 2) hs rfl (v := .string p.2) (by rw [Int.toNat_natCast]; exact hp2) ?_
      simp only [nn_some, add_mk, Nat.zero_add, Nat.add_zero, Nat.reduceAdd, Nat.reduceMul, Option.isNone_some, Option.isNone_none, br_true, br_false, Bool.not_true, Bool.not_false, xI_eq, xB_eq, xS_eq, xP_eq, xL_eq, x0_eq, x2_eq, x3_eq, chk_eq, true_and, and_true, List.set_cons_zero, List.set_cons_succ, List.eraseIdx_cons_zero, List.eraseIdx_cons_succ]
      have : D.now i = p.2 := by
        unfold Disk.now
        have hsplit : D.later = D.later.take m ++ (p :: D.later.drop (m + 1)) := by rw [← drop_cons hp, List.take_append_drop]
        rw [hsplit, last_append, last_cons, hn]
        simp [h1]
      rw [this] at hK; exact hK
    · have e5 : IntKind.i64.wrap ((m : Int) - 1) = (m : Int) - 1 := wrap_id (by omega)
      rw [e5]
      refine ⟨⟨m, rfl, rfl, by omega, ?_⟩, by omega⟩
      rw [drop_cons hp, last_cons, hn]
      simp [h1]
  · have hj0 : j = 0 := by omega
    subst hj0
    have hlast : Disk.last D.later i = none := hn
    refine ld_pt (k := 0) hs rfl rfl ?_
    simp only [nn_some, add_mk, Nat.zero_add, Nat.add_zero, Nat.reduceAdd, Nat.reduceMul, Option.isNone_some, Option.isNone_none, br_true, br_false, Bool.not_true, Bool.not_false, xI_eq, xB_eq, xS_eq, xP_eq, xL_eq, x0_eq, x2_eq, x3_eq, chk_eq, true_and, and_true, List.set_cons_zero, List.set_cons_succ, List.eraseIdx_cons_zero, List.eraseIdx_cons_succ]
    refine ixs_own (k := 1) hs rfl hi fun r hr => ?_
    subst hr
    have hlt : i.toNat < D.safe.length := by have := hi.1; have := hi.2; omega
    refine ld_own (k := 1) hs rfl (v := .string (D.safe[i.toNat])) (by simp [hlt]) ?_
    simp only [nn_some, add_mk, Nat.zero_add, Nat.add_zero, Nat.reduceAdd, Nat.reduceMul, Option.isNone_some, Option.isNone_none, br_true, br_false, Bool.not_true, Bool.not_false, xI_eq, xB_eq, xS_eq, xP_eq, xL_eq, x0_eq, x2_eq, x3_eq, chk_eq, true_and, and_true, List.set_cons_zero, List.set_cons_succ, List.eraseIdx_cons_zero, List.eraseIdx_cons_succ]
    have : D.now i = D.safe[i.toNat] := by
      unfold Disk.now; rw [hlast]; simp [hlt]
    rw [this] at hK; exact hK

/-- A disk that is all sectors so far. -/
theorem New_spec {n : Int} {K : VK} (h : St W w L) (hK : ∀ d w', St W w' (disk d (Disk.new n) :: L) → K (.pointer (some ⟨d, 0, none⟩)) w') : platter_New n K w := by
  unfold platter_New
  simp only [nn_some, add_mk, Nat.zero_add, Nat.add_zero, Nat.reduceAdd, Nat.reduceMul, Option.isNone_some, Option.isNone_none, br_true, br_false, Bool.not_true, Bool.not_false, xI_eq, xB_eq, xS_eq, xP_eq, xL_eq, x0_eq, x2_eq, x3_eq, chk_eq, true_and, and_true, List.set_cons_zero, List.set_cons_succ, List.eraseIdx_cons_zero, List.eraseIdx_cons_succ]
  refine mk_of h fun d w hs => ?_
  have hn : 0 ≤ min2 (max2 n 0) 4096 ∧ min2 (max2 n 0) 4096 ≤ 4096 := by unfold min2 max2; split <;> split <;> omega
  refine ⟨fun us w' => ∃ (j : Nat) (b : Option Addr) (c : Nat), us = [.pointer none, .pointer (some ⟨d, 0, none⟩), .int .i64 (min2 (max2 n 0) 4096), .int .i64 j] ∧ (j : Int) ≤ min2 (max2 n 0) 4096 ∧
      St W w' (pt d [.slice b j c, .slice none 0 0, .int .i64 0, .int .i64 0] :: own b j c 1 ((List.replicate j (zeros 128)).map .string) :: L),
    fun us _ => match us with | [_, _, .int _ m, .int _ j] => (m - j).toNat | _ => 0, ⟨0, none, 0, rfl, hn.1, ?_⟩, ?_⟩
  · refine (hs.push (own_nil 1)).perm (List.Perm.swap _ _ _)
  · rintro p1 a1 n2 n3 w2 ⟨j, b, c, he, hj, hs⟩
    cases he
    refine br_dec (fun h0 => ?_) (fun h0 => ?_)
    · refine tick_of hs fun w hs => ?_
      simp only [nn_some, add_mk, Nat.zero_add, Nat.add_zero, Nat.reduceAdd, Nat.reduceMul, Option.isNone_some, Option.isNone_none, br_true, br_false, Bool.not_true, Bool.not_false, xI_eq, xB_eq, xS_eq, xP_eq, xL_eq, x0_eq, x2_eq, x3_eq, chk_eq, true_and, and_true, List.set_cons_zero, List.set_cons_succ, List.eraseIdx_cons_zero, List.eraseIdx_cons_succ]
      refine ld_pt (k := 0) hs rfl rfl ?_
      simp only [nn_some, add_mk, Nat.zero_add, Nat.add_zero, Nat.reduceAdd, Nat.reduceMul, Option.isNone_some, Option.isNone_none, br_true, br_false, Bool.not_true, Bool.not_false, xI_eq, xB_eq, xS_eq, xP_eq, xL_eq, x0_eq, x2_eq, x3_eq, chk_eq, true_and, and_true, List.set_cons_zero, List.set_cons_succ, List.eraseIdx_cons_zero, List.eraseIdx_cons_succ]
      refine blank_spec hs fun w hs => ?_
      simp only [nn_some, add_mk, Nat.zero_add, Nat.add_zero, Nat.reduceAdd, Nat.reduceMul, Option.isNone_some, Option.isNone_none, br_true, br_false, Bool.not_true, Bool.not_false, xI_eq, xB_eq, xS_eq, xP_eq, xL_eq, x0_eq, x2_eq, x3_eq, chk_eq, true_and, and_true, List.set_cons_zero, List.set_cons_succ, List.eraseIdx_cons_zero, List.eraseIdx_cons_succ]
      refine kp_one (k := 0) hs rfl rfl ?_
      simp only [nn_some, add_mk, Nat.zero_add, Nat.add_zero, Nat.reduceAdd, Nat.reduceMul, Option.isNone_some, Option.isNone_none, br_true, br_false, Bool.not_true, Bool.not_false, xI_eq, xB_eq, xS_eq, xP_eq, xL_eq, x0_eq, x2_eq, x3_eq, chk_eq, true_and, and_true, List.set_cons_zero, List.set_cons_succ, List.eraseIdx_cons_zero, List.eraseIdx_cons_succ]
      refine mk_of hs fun r w hs => ?_
      refine kp_one (k := 1) hs rfl rfl ?_
      refine appSl_own (k := 2) (ys := [.string (zeros 128)]) hs rfl (Src_pt (k' := 0) hs rfl rfl fun j v hj => by rw [Nat.zero_add]; exact hj) (by simp) rfl (by omega) (by omega) (by simp [Value.oneCell']) fun b' c' w hs => ?_
      simp only [nn_some, add_mk, Nat.zero_add, Nat.add_zero, Nat.reduceAdd, Nat.reduceMul, Option.isNone_some, Option.isNone_none, br_true, br_false, Bool.not_true, Bool.not_false, xI_eq, xB_eq, xS_eq, xP_eq, xL_eq, x0_eq, x2_eq, x3_eq, chk_eq, true_and, and_true, List.set_cons_zero, List.set_cons_succ, List.eraseIdx_cons_zero, List.eraseIdx_cons_succ] at hs ⊢
      refine st_pt (k := 1) hs rfl (Nat.le_of_ble_eq_true rfl) rfl fun w hs => ?_
      simp only [nn_some, add_mk, Nat.zero_add, Nat.add_zero, Nat.reduceAdd, Nat.reduceMul, Option.isNone_some, Option.isNone_none, br_true, br_false, Bool.not_true, Bool.not_false, xI_eq, xB_eq, xS_eq, xP_eq, xL_eq, x0_eq, x2_eq, x3_eq, chk_eq, true_and, and_true, List.set_cons_zero, List.set_cons_succ, List.eraseIdx_cons_zero, List.eraseIdx_cons_succ] at hs
      have e5 : IntKind.i64.wrap ((j : Int) + 1) = ((j + 1 : Nat) : Int) := by rw [wrap_id (by omega)]; omega
      rw [e5]
      refine ⟨⟨j + 1, b', c', rfl, by omega, ?_⟩, by omega⟩
      have e6 : (List.replicate j (zeros 128)).map Value.string ++ [.string (zeros 128)] = (List.replicate (j + 1) (zeros 128)).map .string := by
        rw [List.replicate_succ']; simp
      rw [e6] at hs
      exact hs.drop
    · have hj2 : (j : Int) = min2 (max2 n 0) 4096 := by omega
      have hj3 : j = (min2 (max2 n 0) 4096).toNat := by omega
      have hs2 : St W w2 (pt d [.slice b j c, .slice none 0 0, .int .i64 0, .int .i64 0] :: own b j c 1 ((List.replicate j (zeros 128)).map .string) :: own none 0 0 2 (laterCells []) :: L) :=
        (hs.push (A := own none 0 0 2 (laterCells [])) (own_nil 2)).perm ((List.Perm.swap _ _ _).trans (List.Perm.cons _ (List.Perm.swap _ _ _)))
      have := disk_close (L := disk d (Disk.new n) :: L) (k := 0) (A := disk d (Disk.new n)) (safe := List.replicate j (zeros 128)) (later := []) (ops := 0) (arm := 0) rfl (by simp) rfl hs2
      refine hK d w2 ?_
      have e7 : Disk.new n = ⟨List.replicate j (zeros 128), [], 0, 0⟩ := by unfold Disk.new; rw [← hj3]
      rw [e7]; exact this

end
end Go.Sep
