/- A disk in memory; its calls: Sync, Crash. -/
import Derived.Test.YtidhimamegfdaaaDoorPlat3
namespace Go.Sep
open Go.Den Go.RowKit Go.Prog Go.Plat
set_option linter.unusedSimpArgs false
set_option linter.unusedVariables false

theorem foldl_put_length (l : List (Int × ByteArray)) (safe : List ByteArray) : (l.foldl Disk.put safe).length = safe.length := by
  induction l generalizing safe with
  | nil => rfl
  | cons p l ih => rw [List.foldl_cons, ih]; simp [Disk.put]

theorem take_succ_get {α : Type} {l : List α} {j : Nat} {p : α} (h : l[j]? = some p) : l.take (j + 1) = l.take j ++ [p] := by
  obtain ⟨hj, he⟩ := List.getElem?_eq_some_iff.1 h
  rw [List.take_succ_eq_append_getElem hj, he]

section
variable {W w : World} {L : List HP} {k d : Nat} {D : Disk}

/-- The disk's cells, with the sectors as they are on the way. -/
theorem Disk_Sync_spec {K : VK} (h : St W w L) (hk : L[k]? = some (disk d D)) (hok : D.Ok) (hK : ∀ w', St W w' (L.set k (disk d D.sync.1)) → K (.int .i64 D.sync.2) w') : platter_Disk_Sync (some ⟨d, 0, none⟩) K w := by
  have hl := hok.less
  unfold platter_Disk_Sync
  simp only [nn_some, add_mk, Nat.zero_add, Nat.add_zero, Nat.reduceAdd, Nat.reduceMul, Option.isNone_some, Option.isNone_none, br_true, br_false, Bool.not_true, Bool.not_false, xI_eq, xB_eq, xS_eq, xP_eq, xL_eq, x0_eq, x2_eq, x3_eq, chk_eq, true_and, and_true, List.set_cons_zero, List.set_cons_succ, List.eraseIdx_cons_zero, List.eraseIdx_cons_succ]
  refine Disk_fails_spec h hk fun w h => ?_
  simp only [nn_some, add_mk, Nat.zero_add, Nat.add_zero, Nat.reduceAdd, Nat.reduceMul, Option.isNone_some, Option.isNone_none, br_true, br_false, Bool.not_true, Bool.not_false, xI_eq, xB_eq, xS_eq, xP_eq, xL_eq, x0_eq, x2_eq, x3_eq, chk_eq, true_and, and_true, List.set_cons_zero, List.set_cons_succ, List.eraseIdx_cons_zero, List.eraseIdx_cons_succ]
  refine br_of (fun hf => ?_) (fun hf => ?_)
  · have e : D.sync = (D.tick, 8) := by simp [Disk.sync, hf]
    rw [e] at hK; exact hK w h
  have e : D.sync = ({ D.tick with safe := D.later.foldl Disk.put D.safe, later := [] }, 0) := by simp [Disk.sync, hf]
  rw [e] at hK
  have hk2 : (L.set k (disk d D.tick))[k]? = some (disk d D.tick) := set_get hk
  obtain ⟨sb, sc, lb, lc, hs⟩ := disk_open h hk2
  refine ld_pt (k := 0) hs rfl rfl ?_
  simp only [nn_some, add_mk, Nat.zero_add, Nat.add_zero, Nat.reduceAdd, Nat.reduceMul, Option.isNone_some, Option.isNone_none, br_true, br_false, Bool.not_true, Bool.not_false, xI_eq, xB_eq, xS_eq, xP_eq, xL_eq, x0_eq, x2_eq, x3_eq, chk_eq, true_and, and_true, List.set_cons_zero, List.set_cons_succ, List.eraseIdx_cons_zero, List.eraseIdx_cons_succ]
  refine ⟨fun us w' => ∃ j : Nat, us = [.int .i64 0, .slice lb D.later.length lc, .int .i64 D.later.length, .int .i64 j] ∧ j ≤ D.later.length ∧
      St W w' (pt d (diskCells sb lb D.safe.length sc D.later.length lc D.tick.ops D.tick.arm) :: own sb D.safe.length sc 1 (((D.later.take j).foldl Disk.put D.safe).map .string) :: own lb D.later.length lc 2 (laterCells D.later) :: (L.set k (disk d D.tick)).eraseIdx k),
    fun us _ => match us with | [_, _, _, .int _ j] => D.later.length - j.toNat | _ => 0, ⟨0, rfl, Nat.zero_le _, hs⟩, ?_⟩
  rintro n1 sb2 sn2 sc2 n2 n3 w2 ⟨j, he, hj, hs⟩
  cases he
  refine br_dec (fun h0 => ?_) (fun h0 => ?_)
  · have hlt : j < D.later.length := by omega
    obtain ⟨p, hp⟩ : ∃ p, D.later[j]? = some p := ⟨D.later[j], by simp [hlt]⟩
    obtain ⟨hp1, hp2⟩ := laterCells_get _ _ _ hp
    obtain ⟨hps, hpa, hpb⟩ := hok.later p (List.mem_of_getElem? hp)
    refine ixs_own (k := 2) hs rfl (by omega) fun r hr => ?_
    subst hr
    refine ldN_own (k := 2) (ys := [.int .i64 p.1, .string p.2]) hs rfl rfl (fun i v hi => ?_) ?_
    · rw [Int.toNat_natCast]
      match i, hi with
      | 0, hi => simp at hi; subst hi; exact hp1
      | 1, hi => simp at hi; subst hi; exact hp2
    refine mk_of hs fun r1 w hs => ?_
    simp only [nn_some, add_mk, Nat.zero_add, Nat.add_zero, Nat.reduceAdd, Nat.reduceMul, Option.isNone_some, Option.isNone_none, br_true, br_false, Bool.not_true, Bool.not_false, xI_eq, xB_eq, xS_eq, xP_eq, xL_eq, x0_eq, x2_eq, x3_eq, chk_eq, true_and, and_true, List.set_cons_zero, List.set_cons_succ, List.eraseIdx_cons_zero, List.eraseIdx_cons_succ]
    refine ⟨rfl, stN_pt (k := 0) hs rfl (Nat.le_of_ble_eq_true rfl) (by simp [Value.oneCell']) fun w hs => ?_⟩
    simp only [nn_some, add_mk, Nat.zero_add, Nat.add_zero, Nat.reduceAdd, Nat.reduceMul, Option.isNone_some, Option.isNone_none, br_true, br_false, Bool.not_true, Bool.not_false, xI_eq, xB_eq, xS_eq, xP_eq, xL_eq, x0_eq, x2_eq, x3_eq, chk_eq, true_and, and_true, List.set_cons_zero, List.set_cons_succ, List.eraseIdx_cons_zero, List.eraseIdx_cons_succ] at hs
    refine tick_of hs fun w hs => ?_
    refine ld_pt (k := 1) hs rfl rfl ?_
    simp only [nn_some, add_mk, Nat.zero_add, Nat.add_zero, Nat.reduceAdd, Nat.reduceMul, Option.isNone_some, Option.isNone_none, br_true, br_false, Bool.not_true, Bool.not_false, xI_eq, xB_eq, xS_eq, xP_eq, xL_eq, x0_eq, x2_eq, x3_eq, chk_eq, true_and, and_true, List.set_cons_zero, List.set_cons_succ, List.eraseIdx_cons_zero, List.eraseIdx_cons_succ]
    refine ld_pt (k := 0) hs rfl rfl ?_
    simp only [nn_some, add_mk, Nat.zero_add, Nat.add_zero, Nat.reduceAdd, Nat.reduceMul, Option.isNone_some, Option.isNone_none, br_true, br_false, Bool.not_true, Bool.not_false, xI_eq, xB_eq, xS_eq, xP_eq, xL_eq, x0_eq, x2_eq, x3_eq, chk_eq, true_and, and_true, List.set_cons_zero, List.set_cons_succ, List.eraseIdx_cons_zero, List.eraseIdx_cons_succ]
    refine ld_pt (k := 0) hs rfl rfl ?_
    simp only [nn_some, add_mk, Nat.zero_add, Nat.add_zero, Nat.reduceAdd, Nat.reduceMul, Option.isNone_some, Option.isNone_none, br_true, br_false, Bool.not_true, Bool.not_false, xI_eq, xB_eq, xS_eq, xP_eq, xL_eq, x0_eq, x2_eq, x3_eq, chk_eq, true_and, and_true, List.set_cons_zero, List.set_cons_succ, List.eraseIdx_cons_zero, List.eraseIdx_cons_succ]
    refine ixs_own (k := 2) hs rfl ⟨hpa, hpb⟩ fun r hr => ?_
    subst hr
    refine st_own (k := 2) hs rfl (by rw [List.length_map, foldl_put_length]; omega) rfl fun w hs => ?_
    simp only [nn_some, add_mk, Nat.zero_add, Nat.add_zero, Nat.reduceAdd, Nat.reduceMul, Option.isNone_some, Option.isNone_none, br_true, br_false, Bool.not_true, Bool.not_false, xI_eq, xB_eq, xS_eq, xP_eq, xL_eq, x0_eq, x2_eq, x3_eq, chk_eq, true_and, and_true, List.set_cons_zero, List.set_cons_succ, List.eraseIdx_cons_zero, List.eraseIdx_cons_succ] at hs
    have e5 : IntKind.i64.wrap ((j : Int) + 1) = ((j + 1 : Nat) : Int) := by rw [wrap_id (by omega)]; omega
    rw [e5]
    refine ⟨⟨j + 1, rfl, by omega, ?_⟩, by omega⟩
    have e6 : (((D.later.take j).foldl Disk.put D.safe).map Value.string).set (p.1.toNat * 1) (.string p.2) = ((D.later.take (j + 1)).foldl Disk.put D.safe).map .string := by
      rw [take_succ_get hp, List.foldl_append, Nat.mul_one]; simp [Disk.put, List.map_set]
    rw [e6] at hs
    exact hs.drop
  · have hj2 : j = D.later.length := by omega
    subst hj2
    refine st_pt (k := 0) hs rfl (Nat.le_of_ble_eq_true rfl) rfl fun w hs => ?_
    simp only [nn_some, add_mk, Nat.zero_add, Nat.add_zero, Nat.reduceAdd, Nat.reduceMul, Option.isNone_some, Option.isNone_none, br_true, br_false, Bool.not_true, Bool.not_false, xI_eq, xB_eq, xS_eq, xP_eq, xL_eq, x0_eq, x2_eq, x3_eq, chk_eq, true_and, and_true, List.set_cons_zero, List.set_cons_succ, List.eraseIdx_cons_zero, List.eraseIdx_cons_succ] at hs
    refine hK w ?_
    rw [List.take_length] at hs
    have hs3 := (hs.perm ((List.Perm.cons _ (List.Perm.swap _ _ _)).trans (List.Perm.swap _ _ _))).drop.push (own_nil 2)
    have hs4 := hs3.perm ((List.Perm.swap _ _ _).trans (List.Perm.cons _ (List.Perm.swap _ _ _)))
    have h5 := disk_close (sb := sb) (sc := sc) (lb := none) (lc := 0) (safe := D.later.foldl Disk.put D.safe) (later := []) (ops := D.tick.ops) (arm := D.tick.arm) hk2 (foldl_put_length _ _).symm rfl hs4
    rw [List.set_set] at h5
    exact h5

theorem crashAt_length (mask torn c : Int) (safe : List ByteArray) (k : Nat) (p : Int × ByteArray) : (Disk.crashAt mask torn c safe k p).length = safe.length := by
  unfold Disk.crashAt; split
  · simp
  · split <;> simp

/-- The sectors behind the first 'j' writes. -/
def crashed (mask torn c : Int) (safe : List ByteArray) (later : List (Int × ByteArray)) : Nat → List ByteArray
  | 0 => safe
  | j + 1 => match later[j]? with
    | some p => Disk.crashAt mask torn c (crashed mask torn c safe later j) j p
    | none => crashed mask torn c safe later j

theorem crashed_length (mask torn c : Int) (safe : List ByteArray) (later : List (Int × ByteArray)) : ∀ j, (crashed mask torn c safe later j).length = safe.length
  | 0 => rfl
  | j + 1 => by
    simp only [crashed]
    cases later[j]? with
    | none => exact crashed_length mask torn c safe later j
    | some p => simp only []; rw [crashAt_length]; exact crashed_length mask torn c safe later j

theorem crashFrom_eq (mask torn c : Int) (later : List (Int × ByteArray)) (safe : List ByteArray) : ∀ (n j : Nat), j + n = later.length →
    Disk.crashFrom mask torn c j (later.drop j) (crashed mask torn c safe later j) = crashed mask torn c safe later later.length
  | 0, j, h => by
    have : j = later.length := by omega
    subst this; simp [Disk.crashFrom]
  | n + 1, j, h => by
    have hlt : j < later.length := by omega
    rw [List.drop_eq_getElem_cons hlt]
    simp only [Disk.crashFrom]
    have := crashFrom_eq mask torn c later safe n (j + 1) (by omega)
    simp only [crashed, List.getElem?_eq_getElem hlt] at this
    exact this

/-- Bytes of a sector that are laid anew up to 'c'. -/
theorem Disk_Crash_spec {mask torn cut : Int} {K : VK} (h : St W w L) (hk : L[k]? = some (disk d D)) (hok : D.Ok) (hK : ∀ w', St W w' (L.set k (disk d (D.crash mask torn cut))) → K (.tuple ⟨[]⟩) w') :
    platter_Disk_Crash (some ⟨d, 0, none⟩) mask torn cut K w := by
  have hl := hok.less
  have hc : 0 ≤ min2 (max2 cut 0) 128 ∧ min2 (max2 cut 0) 128 ≤ 128 := by unfold min2 max2; split <;> split <;> omega
  have hcr : D.crash mask torn cut = ⟨crashed mask torn (min2 (max2 cut 0) 128) D.safe D.later D.later.length, [], D.ops, 0⟩ := by
    unfold Disk.crash
    have := crashFrom_eq mask torn (min2 (max2 cut 0) 128) D.later D.safe D.later.length 0 (by omega)
    simp only [List.drop_zero, crashed] at this
    rw [this]
  rw [hcr] at hK
  obtain ⟨sb, sc, lb, lc, hs⟩ := disk_open h hk
  unfold platter_Disk_Crash
  generalize min2 (max2 cut 0) 128 = c at *
  simp only [nn_some, add_mk, Nat.zero_add, Nat.add_zero, Nat.reduceAdd, Nat.reduceMul, Option.isNone_some, Option.isNone_none, br_true, br_false, Bool.not_true, Bool.not_false, xI_eq, xB_eq, xS_eq, xP_eq, xL_eq, x0_eq, x2_eq, x3_eq, chk_eq, true_and, and_true, List.set_cons_zero, List.set_cons_succ, List.eraseIdx_cons_zero, List.eraseIdx_cons_succ]
  refine ld_pt (k := 0) hs rfl rfl ?_
  simp only [nn_some, add_mk, Nat.zero_add, Nat.add_zero, Nat.reduceAdd, Nat.reduceMul, Option.isNone_some, Option.isNone_none, br_true, br_false, Bool.not_true, Bool.not_false, xI_eq, xB_eq, xS_eq, xP_eq, xL_eq, x0_eq, x2_eq, x3_eq, chk_eq, true_and, and_true, List.set_cons_zero, List.set_cons_succ, List.eraseIdx_cons_zero, List.eraseIdx_cons_succ]
  refine ⟨fun us w' => ∃ j : Nat, us = [.int .i64 c, .slice lb D.later.length lc, .int .i64 D.later.length, .int .i64 j] ∧ j ≤ D.later.length ∧
      St W w' (pt d (diskCells sb lb D.safe.length sc D.later.length lc D.ops D.arm) :: own sb D.safe.length sc 1 ((crashed mask torn c D.safe D.later j).map .string) :: own lb D.later.length lc 2 (laterCells D.later) :: L.eraseIdx k) ∧
      (∀ s ∈ crashed mask torn c D.safe D.later j, s.size = 128),
    fun us _ => match us with | [_, _, _, .int _ j] => D.later.length - j.toNat | _ => 0, ⟨0, rfl, Nat.zero_le _, hs, hok.safe⟩, ?_⟩
  rintro n4 sb2 sn2 sc2 n5 n6 w2 ⟨j, he, hj, hs, h128⟩
  cases he
  refine br_dec (fun h0 => ?_) (fun h0 => ?_)
  · have hlt : j < D.later.length := by omega
    obtain ⟨p, hp⟩ : ∃ p, D.later[j]? = some p := ⟨D.later[j], by simp [hlt]⟩
    obtain ⟨hp1, hp2⟩ := laterCells_get _ _ _ hp
    obtain ⟨hps, hpa, hpb⟩ := hok.later p (List.mem_of_getElem? hp)
    have hplt : p.1.toNat < (crashed mask torn c D.safe D.later j).length := by rw [crashed_length]; omega
    have e5 : IntKind.i64.wrap ((j : Int) + 1) = ((j + 1 : Nat) : Int) := by rw [wrap_id (by omega)]; omega
    have hstep : crashed mask torn c D.safe D.later (j + 1) = Disk.crashAt mask torn c (crashed mask torn c D.safe D.later j) j p := by
      simp only [crashed, hp]
    have h128' : ∀ s ∈ crashed mask torn c D.safe D.later (j + 1), s.size = 128 := by
      rw [hstep]
      intro s hs
      unfold Disk.crashAt at hs
      split at hs
      · rcases List.mem_or_eq_of_mem_set hs with hs | hs
        · exact h128 s hs
        · rw [hs]
          have := h128 _ (List.getElem_mem hplt)
          rw [List.getD_eq_getElem?_getD, List.getElem?_eq_getElem hplt, Option.getD_some, ByteArray.size_append, strEx, strEx, this, hps]
          omega
      · split at hs
        · rcases List.mem_or_eq_of_mem_set hs with hs | hs
          · exact h128 s hs
          · rw [hs]; exact hps
        · exact h128 s hs
    refine ixs_own (k := 2) hs rfl (by omega) fun r hr => ?_
    subst hr
    refine ldN_own (k := 2) (ys := [.int .i64 p.1, .string p.2]) hs rfl rfl (fun i v hi => ?_) ?_
    · rw [Int.toNat_natCast]
      match i, hi with
      | 0, hi => simp at hi; subst hi; exact hp1
      | 1, hi => simp at hi; subst hi; exact hp2
    refine mk_of hs fun r1 w hs => ?_
    simp only [nn_some, add_mk, Nat.zero_add, Nat.add_zero, Nat.reduceAdd, Nat.reduceMul, Option.isNone_some, Option.isNone_none, br_true, br_false, Bool.not_true, Bool.not_false, xI_eq, xB_eq, xS_eq, xP_eq, xL_eq, x0_eq, x2_eq, x3_eq, chk_eq, true_and, and_true, List.set_cons_zero, List.set_cons_succ, List.eraseIdx_cons_zero, List.eraseIdx_cons_succ]
    refine ⟨rfl, stN_pt (k := 0) hs rfl (Nat.le_of_ble_eq_true rfl) (by simp [Value.oneCell']) fun w hs => ?_⟩
    simp only [nn_some, add_mk, Nat.zero_add, Nat.add_zero, Nat.reduceAdd, Nat.reduceMul, Option.isNone_some, Option.isNone_none, br_true, br_false, Bool.not_true, Bool.not_false, xI_eq, xB_eq, xS_eq, xP_eq, xL_eq, x0_eq, x2_eq, x3_eq, chk_eq, true_and, and_true, List.set_cons_zero, List.set_cons_succ, List.eraseIdx_cons_zero, List.eraseIdx_cons_succ] at hs
    rw [e5]
    have fin : ∀ w', St W w' (pt r1 (over [.int .i64 0, .string .empty] 0 [.int .i64 p.1, .string p.2]) :: pt d (diskCells sb (some ⟨r, 0, none⟩) D.safe.length sc D.later.length lc D.ops D.arm) :: own sb D.safe.length sc 1 ((crashed mask torn c D.safe D.later (j + 1)).map .string) :: own (some ⟨r, 0, none⟩) D.later.length lc 2 (laterCells D.later) :: L.eraseIdx k) →
        (∃ j' : Nat, [Value.int .i64 c, .slice (some ⟨r, 0, none⟩) D.later.length lc, .int .i64 D.later.length, .int .i64 ((j + 1 : Nat) : Int)] = [.int .i64 c, .slice (some ⟨r, 0, none⟩) D.later.length lc, .int .i64 D.later.length, .int .i64 j'] ∧ j' ≤ D.later.length ∧
      St W w' (pt d (diskCells sb (some ⟨r, 0, none⟩) D.safe.length sc D.later.length lc D.ops D.arm) :: own sb D.safe.length sc 1 ((crashed mask torn c D.safe D.later j').map .string) :: own (some ⟨r, 0, none⟩) D.later.length lc 2 (laterCells D.later) :: L.eraseIdx k) ∧
      (∀ s ∈ crashed mask torn c D.safe D.later j', s.size = 128)) := fun w' hs => ⟨j + 1, rfl, by omega, hs.drop, h128'⟩
    refine br_eq (fun ht => ?_) (fun ht => ?_)
    · refine tick_of hs fun w hs => ?_
      refine ld_pt (k := 1) hs rfl rfl ?_
      simp only [nn_some, add_mk, Nat.zero_add, Nat.add_zero, Nat.reduceAdd, Nat.reduceMul, Option.isNone_some, Option.isNone_none, br_true, br_false, Bool.not_true, Bool.not_false, xI_eq, xB_eq, xS_eq, xP_eq, xL_eq, x0_eq, x2_eq, x3_eq, chk_eq, true_and, and_true, List.set_cons_zero, List.set_cons_succ, List.eraseIdx_cons_zero, List.eraseIdx_cons_succ]
      refine ld_pt (k := 0) hs rfl rfl ?_
      simp only [nn_some, add_mk, Nat.zero_add, Nat.add_zero, Nat.reduceAdd, Nat.reduceMul, Option.isNone_some, Option.isNone_none, br_true, br_false, Bool.not_true, Bool.not_false, xI_eq, xB_eq, xS_eq, xP_eq, xL_eq, x0_eq, x2_eq, x3_eq, chk_eq, true_and, and_true, List.set_cons_zero, List.set_cons_succ, List.eraseIdx_cons_zero, List.eraseIdx_cons_succ]
      refine ld_pt (k := 0) hs rfl rfl ?_
      simp only [nn_some, add_mk, Nat.zero_add, Nat.add_zero, Nat.reduceAdd, Nat.reduceMul, Option.isNone_some, Option.isNone_none, br_true, br_false, Bool.not_true, Bool.not_false, xI_eq, xB_eq, xS_eq, xP_eq, xL_eq, x0_eq, x2_eq, x3_eq, chk_eq, true_and, and_true, List.set_cons_zero, List.set_cons_succ, List.eraseIdx_cons_zero, List.eraseIdx_cons_succ]
      unfold slStr
      simp only [nn_some, add_mk, Nat.zero_add, Nat.add_zero, Nat.reduceAdd, Nat.reduceMul, Option.isNone_some, Option.isNone_none, br_true, br_false, Bool.not_true, Bool.not_false, xI_eq, xB_eq, xS_eq, xP_eq, xL_eq, x0_eq, x2_eq, x3_eq, chk_eq, true_and, and_true, List.set_cons_zero, List.set_cons_succ, List.eraseIdx_cons_zero, List.eraseIdx_cons_succ]
      refine ⟨⟨hc.1, by omega⟩, ?_⟩
      refine ld_pt (k := 1) hs rfl rfl ?_
      simp only [nn_some, add_mk, Nat.zero_add, Nat.add_zero, Nat.reduceAdd, Nat.reduceMul, Option.isNone_some, Option.isNone_none, br_true, br_false, Bool.not_true, Bool.not_false, xI_eq, xB_eq, xS_eq, xP_eq, xL_eq, x0_eq, x2_eq, x3_eq, chk_eq, true_and, and_true, List.set_cons_zero, List.set_cons_succ, List.eraseIdx_cons_zero, List.eraseIdx_cons_succ]
      refine ld_pt (k := 0) hs rfl rfl ?_
      simp only [nn_some, add_mk, Nat.zero_add, Nat.add_zero, Nat.reduceAdd, Nat.reduceMul, Option.isNone_some, Option.isNone_none, br_true, br_false, Bool.not_true, Bool.not_false, xI_eq, xB_eq, xS_eq, xP_eq, xL_eq, x0_eq, x2_eq, x3_eq, chk_eq, true_and, and_true, List.set_cons_zero, List.set_cons_succ, List.eraseIdx_cons_zero, List.eraseIdx_cons_succ]
      refine ixs_own (k := 2) hs rfl ⟨hpa, hpb⟩ fun r' hr' => ?_
      subst hr'
      refine ld_own (k := 2) hs rfl (v := .string ((crashed mask torn c D.safe D.later j)[p.1.toNat])) (by rw [Nat.mul_one, List.getElem?_map, List.getElem?_eq_getElem hplt]; rfl) ?_
      simp only [nn_some, add_mk, Nat.zero_add, Nat.add_zero, Nat.reduceAdd, Nat.reduceMul, Option.isNone_some, Option.isNone_none, br_true, br_false, Bool.not_true, Bool.not_false, xI_eq, xB_eq, xS_eq, xP_eq, xL_eq, x0_eq, x2_eq, x3_eq, chk_eq, true_and, and_true, List.set_cons_zero, List.set_cons_succ, List.eraseIdx_cons_zero, List.eraseIdx_cons_succ]
      have h1 := h128 _ (List.getElem_mem hplt)
      refine ⟨⟨hc.1, by rw [h1]; exact hc.2⟩, ⟨by rw [strEx, strEx]; omega, ?_⟩⟩
      refine ixs_own (k := 2) hs rfl ⟨hpa, hpb⟩ fun r'' hr'' => ?_
      cases hr''
      refine st_own (k := 2) hs rfl (by rw [List.length_map, Nat.mul_one]; exact hplt) rfl fun w hs => ?_
      simp only [nn_some, add_mk, Nat.zero_add, Nat.add_zero, Nat.reduceAdd, Nat.reduceMul, Option.isNone_some, Option.isNone_none, br_true, br_false, Bool.not_true, Bool.not_false, xI_eq, xB_eq, xS_eq, xP_eq, xL_eq, x0_eq, x2_eq, x3_eq, chk_eq, true_and, and_true, List.set_cons_zero, List.set_cons_succ, List.eraseIdx_cons_zero, List.eraseIdx_cons_succ] at hs
      refine ⟨fin w ?_, by omega⟩
      rw [hstep]
      have e6 : (Disk.crashAt mask torn c (crashed mask torn c D.safe D.later j) j p).map Value.string = ((crashed mask torn c D.safe D.later j).map Value.string).set (p.1.toNat * 1) (.string (p.2.extract 0 c.toNat ++ ((crashed mask torn c D.safe D.later j)[p.1.toNat]).extract c.toNat ((crashed mask torn c D.safe D.later j)[p.1.toNat]).size)) := by
        unfold Disk.crashAt
        rw [if_pos ht, List.map_set, Nat.mul_one, List.getD_eq_getElem?_getD, List.getElem?_eq_getElem hplt]; rfl
      rw [e6]; exact hs
    · refine ⟨by unfold min2; split <;> omega, ?_⟩
      refine br_of (fun hb => ?_) (fun hb => ?_)
      · refine tick_of hs fun w hs => ?_
        refine ld_pt (k := 1) hs rfl rfl ?_
        simp only [nn_some, add_mk, Nat.zero_add, Nat.add_zero, Nat.reduceAdd, Nat.reduceMul, Option.isNone_some, Option.isNone_none, br_true, br_false, Bool.not_true, Bool.not_false, xI_eq, xB_eq, xS_eq, xP_eq, xL_eq, x0_eq, x2_eq, x3_eq, chk_eq, true_and, and_true, List.set_cons_zero, List.set_cons_succ, List.eraseIdx_cons_zero, List.eraseIdx_cons_succ]
        refine ld_pt (k := 0) hs rfl rfl ?_
        simp only [nn_some, add_mk, Nat.zero_add, Nat.add_zero, Nat.reduceAdd, Nat.reduceMul, Option.isNone_some, Option.isNone_none, br_true, br_false, Bool.not_true, Bool.not_false, xI_eq, xB_eq, xS_eq, xP_eq, xL_eq, x0_eq, x2_eq, x3_eq, chk_eq, true_and, and_true, List.set_cons_zero, List.set_cons_succ, List.eraseIdx_cons_zero, List.eraseIdx_cons_succ]
        refine ld_pt (k := 0) hs rfl rfl ?_
        simp only [nn_some, add_mk, Nat.zero_add, Nat.add_zero, Nat.reduceAdd, Nat.reduceMul, Option.isNone_some, Option.isNone_none, br_true, br_false, Bool.not_true, Bool.not_false, xI_eq, xB_eq, xS_eq, xP_eq, xL_eq, x0_eq, x2_eq, x3_eq, chk_eq, true_and, and_true, List.set_cons_zero, List.set_cons_succ, List.eraseIdx_cons_zero, List.eraseIdx_cons_succ]
        refine ixs_own (k := 2) hs rfl ⟨hpa, hpb⟩ fun r' hr' => ?_
        subst hr'
        refine st_own (k := 2) hs rfl (by rw [List.length_map, Nat.mul_one]; exact hplt) rfl fun w hs => ?_
        simp only [nn_some, add_mk, Nat.zero_add, Nat.add_zero, Nat.reduceAdd, Nat.reduceMul, Option.isNone_some, Option.isNone_none, br_true, br_false, Bool.not_true, Bool.not_false, xI_eq, xB_eq, xS_eq, xP_eq, xL_eq, x0_eq, x2_eq, x3_eq, chk_eq, true_and, and_true, List.set_cons_zero, List.set_cons_succ, List.eraseIdx_cons_zero, List.eraseIdx_cons_succ] at hs
        refine ⟨fin w ?_, by omega⟩
        rw [hstep]
        have e6 : (Disk.crashAt mask torn c (crashed mask torn c D.safe D.later j) j p).map Value.string = ((crashed mask torn c D.safe D.later j).map Value.string).set (p.1.toNat * 1) (.string p.2) := by
          unfold Disk.crashAt
          have hb' : Disk.bit mask j = true := hb
          rw [if_neg ht, if_pos hb', List.map_set, Nat.mul_one]
        rw [e6]; exact hs
      · refine ⟨fin w ?_, by omega⟩
        rw [hstep]
        have e6 : Disk.crashAt mask torn c (crashed mask torn c D.safe D.later j) j p = crashed mask torn c D.safe D.later j := by
          unfold Disk.crashAt
          rw [if_neg ht, if_neg (by rw [Disk.bit, hb]; exact Bool.false_ne_true)]
        rw [e6]; exact hs
  · have hj2 : j = D.later.length := by omega
    subst hj2
    refine st_pt (k := 0) hs rfl (Nat.le_of_ble_eq_true rfl) rfl fun w hs => ?_
    simp only [nn_some, add_mk, Nat.zero_add, Nat.add_zero, Nat.reduceAdd, Nat.reduceMul, Option.isNone_some, Option.isNone_none, br_true, br_false, Bool.not_true, Bool.not_false, xI_eq, xB_eq, xS_eq, xP_eq, xL_eq, x0_eq, x2_eq, x3_eq, chk_eq, true_and, and_true, List.set_cons_zero, List.set_cons_succ, List.eraseIdx_cons_zero, List.eraseIdx_cons_succ] at hs
    refine st_pt (k := 0) hs rfl (Nat.le_of_ble_eq_true rfl) rfl fun w hs => ?_
    simp only [nn_some, add_mk, Nat.zero_add, Nat.add_zero, Nat.reduceAdd, Nat.reduceMul, Option.isNone_some, Option.isNone_none, br_true, br_false, Bool.not_true, Bool.not_false, xI_eq, xB_eq, xS_eq, xP_eq, xL_eq, x0_eq, x2_eq, x3_eq, chk_eq, true_and, and_true, List.set_cons_zero, List.set_cons_succ, List.eraseIdx_cons_zero, List.eraseIdx_cons_succ] at hs
    refine hK w ?_
    have hs3 := (hs.perm ((List.Perm.cons _ (List.Perm.swap _ _ _)).trans (List.Perm.swap _ _ _))).drop.push (own_nil 2)
    have hs4 := hs3.perm ((List.Perm.swap _ _ _).trans (List.Perm.cons _ (List.Perm.swap _ _ _)))
    exact disk_close (sb := sb) (sc := sc) (lb := none) (lc := 0) (safe := crashed mask torn c D.safe D.later D.later.length) (later := []) (ops := D.ops) (arm := 0) hk (crashed_length _ _ _ _ _ _).symm rfl hs4

end
end Go.Sep
