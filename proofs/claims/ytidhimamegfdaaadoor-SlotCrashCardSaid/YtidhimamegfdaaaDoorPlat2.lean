/- A disk in memory; its calls: New, Read, Write, Arm, and what counts. -/
import Derived.Test.YtidhimamegfdaaaDoorPlat1
namespace Go.Sep
open Go.Den Go.RowKit Go.Prog Go.Plat
set_option linter.unusedSimpArgs false
set_option linter.unusedVariables false

section
variable {W w : World} {L : List HP} {k d : Nat} {D : Disk}

theorem repL_one (c : UInt8) : ∀ n, repL [c] n = List.replicate n c
  | 0 => rfl
  | n + 1 => by simp [repL, repL_one c n, List.replicate_succ]

theorem Repeat_spec {s : ByteArray} {n : Int} {K : VK} (h : St W w L) (h0 : 0 ≤ n) (h1 : s.size * n.toNat ≤ 140737488355328) (h2 : n ≤ 9223372036854775807) (hK : ∀ w', St W w' L → K (.string ⟨(repL s.data.toList n.toNat).toArray⟩) w') : strings_Repeat s n K w :=
  ⟨⟨h0, h1, h2⟩, fun w' hb => hK w' (h.below_trans hb)⟩

theorem blank_spec {K : VK} (h : St W w L) (hK : ∀ w', St W w' L → K (.string (zeros 128)) w') : platter_blank K w := by
  unfold platter_blank
  refine Repeat_spec h (by decide) (by decide) (by decide) fun w h => ?_
  simp only [nn_some, add_mk, Nat.zero_add, Nat.add_zero, Nat.reduceAdd, Nat.reduceMul, Option.isNone_some, Option.isNone_none, br_true, br_false, Bool.not_true, Bool.not_false, xI_eq, xB_eq, xS_eq, xP_eq, xL_eq, x0_eq, x2_eq, x3_eq, chk_eq, true_and, and_true, List.set_cons_zero, List.set_cons_succ, List.eraseIdx_cons_zero, List.eraseIdx_cons_succ]
  have e : (⟨(repL (⟨#[0]⟩ : ByteArray).data.toList (128 : Int).toNat).toArray⟩ : ByteArray) = zeros 128 := by
    show (⟨(repL [0] 128).toArray⟩ : ByteArray) = _
    rw [repL_one]; rfl
  rw [e]; exact hK w h

theorem Disk_Sectors_spec {K : VK} (h : St W w L) (hk : L[k]? = some (disk d D)) (hK : K (.int .i64 (D.safe.length : Int)) w) : platter_Disk_Sectors (some ⟨d, 0, none⟩) K w := by
  obtain ⟨sb, sc, lb, lc, h0, h1, h2, h3⟩ := disk_read h hk
  unfold platter_Disk_Sectors
  simp only [nn_some, add_mk, Nat.zero_add, Nat.add_zero, Nat.reduceAdd, Nat.reduceMul, Option.isNone_some, Option.isNone_none, br_true, br_false, Bool.not_true, Bool.not_false, xI_eq, xB_eq, xS_eq, xP_eq, xL_eq, x0_eq, x2_eq, x3_eq, chk_eq, true_and, and_true, List.set_cons_zero, List.set_cons_succ, List.eraseIdx_cons_zero, List.eraseIdx_cons_succ]
  refine ld_of h0 ?_
  simp only [nn_some, add_mk, Nat.zero_add, Nat.add_zero, Nat.reduceAdd, Nat.reduceMul, Option.isNone_some, Option.isNone_none, br_true, br_false, Bool.not_true, Bool.not_false, xI_eq, xB_eq, xS_eq, xP_eq, xL_eq, x0_eq, x2_eq, x3_eq, chk_eq, true_and, and_true, List.set_cons_zero, List.set_cons_succ, List.eraseIdx_cons_zero, List.eraseIdx_cons_succ]
  exact hK

theorem Disk_Later_spec {K : VK} (h : St W w L) (hk : L[k]? = some (disk d D)) (hK : K (.int .i64 (D.later.length : Int)) w) : platter_Disk_Later (some ⟨d, 0, none⟩) K w := by
  obtain ⟨sb, sc, lb, lc, h0, h1, h2, h3⟩ := disk_read h hk
  unfold platter_Disk_Later
  simp only [nn_some, add_mk, Nat.zero_add, Nat.add_zero, Nat.reduceAdd, Nat.reduceMul, Option.isNone_some, Option.isNone_none, br_true, br_false, Bool.not_true, Bool.not_false, xI_eq, xB_eq, xS_eq, xP_eq, xL_eq, x0_eq, x2_eq, x3_eq, chk_eq, true_and, and_true, List.set_cons_zero, List.set_cons_succ, List.eraseIdx_cons_zero, List.eraseIdx_cons_succ]
  refine ld_of h1 ?_
  simp only [nn_some, add_mk, Nat.zero_add, Nat.add_zero, Nat.reduceAdd, Nat.reduceMul, Option.isNone_some, Option.isNone_none, br_true, br_false, Bool.not_true, Bool.not_false, xI_eq, xB_eq, xS_eq, xP_eq, xL_eq, x0_eq, x2_eq, x3_eq, chk_eq, true_and, and_true, List.set_cons_zero, List.set_cons_succ, List.eraseIdx_cons_zero, List.eraseIdx_cons_succ]
  exact hK

theorem Disk_Ops_spec {K : VK} (h : St W w L) (hk : L[k]? = some (disk d D)) (hK : K (.int .i64 D.ops) w) : platter_Disk_Ops (some ⟨d, 0, none⟩) K w := by
  obtain ⟨sb, sc, lb, lc, h0, h1, h2, h3⟩ := disk_read h hk
  unfold platter_Disk_Ops
  simp only [nn_some, add_mk, Nat.zero_add, Nat.add_zero, Nat.reduceAdd, Nat.reduceMul, Option.isNone_some, Option.isNone_none, br_true, br_false, Bool.not_true, Bool.not_false, xI_eq, xB_eq, xS_eq, xP_eq, xL_eq, x0_eq, x2_eq, x3_eq, chk_eq, true_and, and_true, List.set_cons_zero, List.set_cons_succ, List.eraseIdx_cons_zero, List.eraseIdx_cons_succ]
  refine ld_of h2 ?_
  simp only [nn_some, add_mk, Nat.zero_add, Nat.add_zero, Nat.reduceAdd, Nat.reduceMul, Option.isNone_some, Option.isNone_none, br_true, br_false, Bool.not_true, Bool.not_false, xI_eq, xB_eq, xS_eq, xP_eq, xL_eq, x0_eq, x2_eq, x3_eq, chk_eq, true_and, and_true, List.set_cons_zero, List.set_cons_succ, List.eraseIdx_cons_zero, List.eraseIdx_cons_succ]
  exact hK

theorem Disk_Arm_spec {n : Int} {K : VK} (h : St W w L) (hk : L[k]? = some (disk d D)) (hK : ∀ w', St W w' (L.set k (disk d (D.armed n))) → K (.tuple ⟨[]⟩) w') : platter_Disk_Arm (some ⟨d, 0, none⟩) n K w := by
  obtain ⟨sb, sc, lb, lc, hs⟩ := disk_open h hk
  unfold platter_Disk_Arm
  simp only [nn_some, add_mk, Nat.zero_add, Nat.add_zero, Nat.reduceAdd, Nat.reduceMul, Option.isNone_some, Option.isNone_none, br_true, br_false, Bool.not_true, Bool.not_false, xI_eq, xB_eq, xS_eq, xP_eq, xL_eq, x0_eq, x2_eq, x3_eq, chk_eq, true_and, and_true, List.set_cons_zero, List.set_cons_succ, List.eraseIdx_cons_zero, List.eraseIdx_cons_succ]
  refine st_pt (k := 0) hs rfl (Nat.le_of_ble_eq_true rfl) rfl fun w hs => ?_
  simp only [nn_some, add_mk, Nat.zero_add, Nat.add_zero, Nat.reduceAdd, Nat.reduceMul, Option.isNone_some, Option.isNone_none, br_true, br_false, Bool.not_true, Bool.not_false, xI_eq, xB_eq, xS_eq, xP_eq, xL_eq, x0_eq, x2_eq, x3_eq, chk_eq, true_and, and_true, List.set_cons_zero, List.set_cons_succ, List.eraseIdx_cons_zero, List.eraseIdx_cons_succ] at hs
  exact hK _ (disk_close hk rfl rfl hs)

theorem strEx (s : ByteArray) (i j : Nat) : (s.extract i j).size = min j s.size - i := by simp [ByteArray.size_extract]

theorem zeros_extract (n i : Nat) : (zeros n).extract i n = zeros (n - i) := by
  apply ByteArray.ext
  simp [zeros, ByteArray.data_extract]

theorem Disk_Write_j1_spec {i : Int} {s : ByteArray} {b : Bool} {K : VK} (h : St W w L) (hk : L[k]? = some (disk d D)) (hok : D.Ok) (hb : b = decide (128 < s.size)) (hi : D.is i)
    (hK : ∀ w', St W w' (L.set k (disk d (D.write i s).1)) → K (.int .i64 (D.write i s).2) w') : platter_Disk_Write.j1 K (some ⟨d, 0, none⟩) s i b w := by
  unfold platter_Disk_Write.j1
  refine br_of (fun h1 => ?_) (fun h1 => ?_)
  · have h2 : 128 < s.size := by rw [hb] at h1; exact of_decide_eq_true h1
    have e : D.write i s = (D, 1) := by simp [Disk.write, h2]
    rw [e] at hK
    refine hK w ?_
    rw [set_same hk]; exact h
  · have h2 : ¬ 128 < s.size := by rw [hb] at h1; exact of_decide_eq_false h1
    refine Disk_fails_spec h hk fun w h => ?_
    simp only [nn_some, add_mk, Nat.zero_add, Nat.add_zero, Nat.reduceAdd, Nat.reduceMul, Option.isNone_some, Option.isNone_none, br_true, br_false, Bool.not_true, Bool.not_false, xI_eq, xB_eq, xS_eq, xP_eq, xL_eq, x0_eq, x2_eq, x3_eq, chk_eq, true_and, and_true, List.set_cons_zero, List.set_cons_succ, List.eraseIdx_cons_zero, List.eraseIdx_cons_succ]
    refine br_of (fun h3 => ?_) (fun h3 => ?_)
    · have e : D.write i s = (D.tick, 8) := by simp [Disk.write, h2, hi, h3]
      rw [e] at hK
      exact hK w h
    · have e : D.write i s = ({ D.tick with later := D.later ++ [(i, Disk.pad s)] }, 0) := by simp [Disk.write, h2, hi, h3]
      rw [e] at hK
      refine tick_of h fun w h => ?_
      have hk2 : (L.set k (disk d D.tick))[k]? = some (disk d D.tick) := set_get hk
      obtain ⟨sb, sc, lb, lc, hs⟩ := disk_open h hk2
      refine ld_pt (k := 0) hs rfl rfl ?_
      simp only [nn_some, add_mk, Nat.zero_add, Nat.add_zero, Nat.reduceAdd, Nat.reduceMul, Option.isNone_some, Option.isNone_none, br_true, br_false, Bool.not_true, Bool.not_false, xI_eq, xB_eq, xS_eq, xP_eq, xL_eq, x0_eq, x2_eq, x3_eq, chk_eq, true_and, and_true, List.set_cons_zero, List.set_cons_succ, List.eraseIdx_cons_zero, List.eraseIdx_cons_succ]
      refine blank_spec hs fun w hs => ?_
      simp only [nn_some, add_mk, Nat.zero_add, Nat.add_zero, Nat.reduceAdd, Nat.reduceMul, Option.isNone_some, Option.isNone_none, br_true, br_false, Bool.not_true, Bool.not_false, xI_eq, xB_eq, xS_eq, xP_eq, xL_eq, x0_eq, x2_eq, x3_eq, chk_eq, true_and, and_true, List.set_cons_zero, List.set_cons_succ, List.eraseIdx_cons_zero, List.eraseIdx_cons_succ]
      refine kp_one (k := 0) hs rfl rfl ?_
      have hsz : (zeros 128).size = 128 := zeros_size 128
      unfold slStr
      simp only [nn_some, add_mk, Nat.zero_add, Nat.add_zero, Nat.reduceAdd, Nat.reduceMul, Option.isNone_some, Option.isNone_none, br_true, br_false, Bool.not_true, Bool.not_false, xI_eq, xB_eq, xS_eq, xP_eq, xL_eq, x0_eq, x2_eq, x3_eq, chk_eq, true_and, and_true, List.set_cons_zero, List.set_cons_succ, List.eraseIdx_cons_zero, List.eraseIdx_cons_succ]
      refine ⟨⟨by omega, by omega⟩, ?_⟩
      have e3 : (zeros 128).extract (s.size : Int).toNat (zeros 128).size = zeros (128 - s.size) := by rw [hsz, Int.toNat_natCast]; exact zeros_extract 128 s.size
      rw [e3]
      refine ⟨by rw [zeros_size]; omega, ?_⟩
      refine mk_of hs fun r w hs => ?_
      refine kp_one (k := 1) hs rfl rfl ?_
      have hl : D.later.length < 1099511627776 := hok.less
      refine appSl_own (k := 3) (n := D.tick.later.length) (ys := [.int .i64 i, .string (Disk.pad s)]) hs rfl (Src_pt (k' := 0) hs rfl rfl fun j v hj => by rw [Nat.zero_add]; exact hj) (by simp) rfl
        (by show (D.later.length + 1) * 24 ≤ _; omega) (by show D.later.length + 1 ≤ _; omega) (by simp [Value.oneCell']) fun b' c' w hs => ?_
      simp only [nn_some, add_mk, Nat.zero_add, Nat.add_zero, Nat.reduceAdd, Nat.reduceMul, Option.isNone_some, Option.isNone_none, br_true, br_false, Bool.not_true, Bool.not_false, xI_eq, xB_eq, xS_eq, xP_eq, xL_eq, x0_eq, x2_eq, x3_eq, chk_eq, true_and, and_true, List.set_cons_zero, List.set_cons_succ, List.eraseIdx_cons_zero, List.eraseIdx_cons_succ] at hs ⊢
      refine st_pt (k := 1) hs rfl (Nat.le_of_ble_eq_true rfl) rfl fun w hs => ?_
      simp only [nn_some, add_mk, Nat.zero_add, Nat.add_zero, Nat.reduceAdd, Nat.reduceMul, Option.isNone_some, Option.isNone_none, br_true, br_false, Bool.not_true, Bool.not_false, xI_eq, xB_eq, xS_eq, xP_eq, xL_eq, x0_eq, x2_eq, x3_eq, chk_eq, true_and, and_true, List.set_cons_zero, List.set_cons_succ, List.eraseIdx_cons_zero, List.eraseIdx_cons_succ] at hs
      refine hK w ?_
      have e4 : laterCells D.tick.later ++ [.int .i64 i, .string (Disk.pad s)] = laterCells (D.later ++ [(i, Disk.pad s)]) := by simp [laterCells, Disk.tick]
      rw [e4] at hs
      have h5 := disk_close (sb := sb) (sc := sc) (lb := b') (lc := c') (safe := D.safe) (ops := D.tick.ops) (arm := D.tick.arm) hk2 rfl (by simp [Disk.tick]) hs.drop
      rw [List.set_set] at h5
      exact h5

theorem Disk_Write_spec {i : Int} {s : ByteArray} {K : VK} (h : St W w L) (hk : L[k]? = some (disk d D)) (hok : D.Ok)
    (hK : ∀ w', St W w' (L.set k (disk d (D.write i s).1)) → K (.int .i64 (D.write i s).2) w') : platter_Disk_Write (some ⟨d, 0, none⟩) i s K w := by
  unfold platter_Disk_Write
  simp only [nn_some, add_mk, Nat.zero_add, Nat.add_zero, Nat.reduceAdd, Nat.reduceMul, Option.isNone_some, Option.isNone_none, br_true, br_false, Bool.not_true, Bool.not_false, xI_eq, xB_eq, xS_eq, xP_eq, xL_eq, x0_eq, x2_eq, x3_eq, chk_eq, true_and, and_true, List.set_cons_zero, List.set_cons_succ, List.eraseIdx_cons_zero, List.eraseIdx_cons_succ]
  refine Disk_is_spec h hk ?_
  simp only [nn_some, add_mk, Nat.zero_add, Nat.add_zero, Nat.reduceAdd, Nat.reduceMul, Option.isNone_some, Option.isNone_none, br_true, br_false, Bool.not_true, Bool.not_false, xI_eq, xB_eq, xS_eq, xP_eq, xL_eq, x0_eq, x2_eq, x3_eq, chk_eq, true_and, and_true, List.set_cons_zero, List.set_cons_succ, List.eraseIdx_cons_zero, List.eraseIdx_cons_succ]
  by_cases hi : D.is i
  · rw [decide_eq_true hi]
    simp only [nn_some, add_mk, Nat.zero_add, Nat.add_zero, Nat.reduceAdd, Nat.reduceMul, Option.isNone_some, Option.isNone_none, br_true, br_false, Bool.not_true, Bool.not_false, xI_eq, xB_eq, xS_eq, xP_eq, xL_eq, x0_eq, x2_eq, x3_eq, chk_eq, true_and, and_true, List.set_cons_zero, List.set_cons_succ, List.eraseIdx_cons_zero, List.eraseIdx_cons_succ]
    refine Disk_Write_j1_spec h hk hok ?_ hi hK
    exact decide_eq_decide.2 (by omega)
  · rw [decide_eq_false hi]
    simp only [nn_some, add_mk, Nat.zero_add, Nat.add_zero, Nat.reduceAdd, Nat.reduceMul, Option.isNone_some, Option.isNone_none, br_true, br_false, Bool.not_true, Bool.not_false, xI_eq, xB_eq, xS_eq, xP_eq, xL_eq, x0_eq, x2_eq, x3_eq, chk_eq, true_and, and_true, List.set_cons_zero, List.set_cons_succ, List.eraseIdx_cons_zero, List.eraseIdx_cons_succ]
    have e : D.write i s = (D, 1) := by simp [Disk.write, hi]
    rw [e] at hK
    unfold platter_Disk_Write.j1
    simp only [nn_some, add_mk, Nat.zero_add, Nat.add_zero, Nat.reduceAdd, Nat.reduceMul, Option.isNone_some, Option.isNone_none, br_true, br_false, Bool.not_true, Bool.not_false, xI_eq, xB_eq, xS_eq, xP_eq, xL_eq, x0_eq, x2_eq, x3_eq, chk_eq, true_and, and_true, List.set_cons_zero, List.set_cons_succ, List.eraseIdx_cons_zero, List.eraseIdx_cons_succ]
    refine hK w ?_
    rw [set_same hk]; exact h

end
end Go.Sep
