/- A disk in memory; its calls. -/
import Derived.Test.YtidhimamegfdaaaDoorPlat0
import Derived.Test.YtidhimamegfdaaaDoorTransM
namespace Go.Sep
open Go.Den Go.RowKit Go.Prog Go.Plat
set_option linter.unusedSimpArgs false
set_option linter.unusedVariables false

def laterCells (l : List (Int × ByteArray)) : List Value := l.flatMap fun p => [.int .i64 p.1, .string p.2]

theorem laterCells_length (l : List (Int × ByteArray)) : (laterCells l).length = l.length * 2 := by
  induction l with
  | nil => rfl
  | cons p l ih => simp [laterCells] at ih ⊢; omega

theorem laterCells_get (l : List (Int × ByteArray)) (i : Nat) (p : Int × ByteArray) (h : l[i]? = some p) :
    (laterCells l)[i * 2]? = some (.int .i64 p.1) ∧ (laterCells l)[i * 2 + 1]? = some (.string p.2) := by
  induction l generalizing i with
  | nil => simp at h
  | cons q l ih =>
    cases i with
    | zero => simp at h; subst h; exact ⟨rfl, rfl⟩
    | succ i =>
      simp only [List.getElem?_cons_succ] at h
      have := ih i h
      rw [show (i + 1) * 2 = (i * 2) + 2 from by omega, show i * 2 + 2 + 1 = (i * 2 + 1) + 2 from by omega]
      exact this

def diskCells (sb lb : Option Addr) (n sc m lc : Nat) (ops arm : Int) : List Value := [.slice sb n sc, .slice lb m lc, .int .i64 ops, .int .i64 arm]

/-- A disk in block 'd'. -/
def disk (d : Nat) (D : Disk) : HP := exH fun (v : (Option Addr × Nat) × (Option Addr × Nat)) =>
  sep (pt d (diskCells v.1.1 v.2.1 D.safe.length v.1.2 D.later.length v.2.2 D.ops D.arm))
    (sep (own v.1.1 D.safe.length v.1.2 1 (D.safe.map .string)) (own v.2.1 D.later.length v.2.2 2 (laterCells D.later)))

section
variable {W w : World} {L : List HP} {k d : Nat} {D : Disk}

theorem disk_open (h : St W w L) (hk : L[k]? = some (disk d D)) : ∃ sb sc lb lc,
    St W w (pt d (diskCells sb lb D.safe.length sc D.later.length lc D.ops D.arm) :: own sb D.safe.length sc 1 (D.safe.map .string) :: own lb D.later.length lc 2 (laterCells D.later) :: L.eraseIdx k) := by
  obtain ⟨⟨⟨sb, sc⟩, lb, lc⟩, h1⟩ := (h.focus hk).ex
  have h2 := h1.split
  have h3 := (h2.perm (List.Perm.swap _ _ _)).split
  refine ⟨sb, sc, lb, lc, h3.perm ?_⟩
  exact (List.Perm.cons _ (List.Perm.swap _ _ _)).trans (List.Perm.swap _ _ _)

theorem disk_close {sb lb : Option Addr} {sc lc n m : Nat} {safe : List ByteArray} {later : List (Int × ByteArray)} {ops arm : Int} {A : HP} (hk : L[k]? = some A) (hn : n = safe.length) (hm : m = later.length)
    (h : St W w (pt d (diskCells sb lb n sc m lc ops arm) :: own sb n sc 1 (safe.map .string) :: own lb m lc 2 (laterCells later) :: L.eraseIdx k)) : St W w (L.set k (disk d ⟨safe, later, ops, arm⟩)) := by
  subst hn hm
  refine St.unfocus (A := A) ?_ hk
  refine St.ex_intro ((sb, sc), (lb, lc)) (St.join ?_)
  refine St.perm ?_ (List.Perm.swap _ _ _)
  exact St.join (h.perm ((List.Perm.swap _ _ _).trans (List.Perm.cons _ (List.Perm.swap _ _ _))))

theorem disk_read (h : St W w L) (hk : L[k]? = some (disk d D)) : ∃ sb sc lb lc, w.cell? ⟨d, 0, none⟩ = some (.slice sb D.safe.length sc) ∧ w.cell? ⟨d, 1, none⟩ = some (.slice lb D.later.length lc) ∧
    w.cell? ⟨d, 2, none⟩ = some (.int .i64 D.ops) ∧ w.cell? ⟨d, 3, none⟩ = some (.int .i64 D.arm) := by
  obtain ⟨sb, sc, lb, lc, hs⟩ := disk_open h hk
  exact ⟨sb, sc, lb, lc, (hs.cell (k := 0) rfl).1, (hs.cell (k := 0) rfl).1, (hs.cell (k := 0) rfl).1, (hs.cell (k := 0) rfl).1⟩

theorem Disk_is_spec {i : Int} {K : VK} (h : St W w L) (hk : L[k]? = some (disk d D)) (hK : K (.bool (decide (D.is i))) w) : platter_Disk_is (some ⟨d, 0, none⟩) i K w := by
  obtain ⟨sb, sc, lb, lc, h0, _⟩ := disk_read h hk
  unfold platter_Disk_is
  simp only [nn_some, add_mk, Nat.zero_add, Nat.add_zero, Nat.reduceAdd, Nat.reduceMul, Option.isNone_some, Option.isNone_none, br_true, br_false, Bool.not_true, Bool.not_false, xI_eq, xB_eq, xS_eq, xP_eq, xL_eq, x0_eq, x2_eq, x3_eq, chk_eq, true_and, and_true, List.set_cons_zero, List.set_cons_succ, List.eraseIdx_cons_zero, List.eraseIdx_cons_succ]
  refine br_dec (fun hi => ld_of h0 ?_) (fun hi => ?_)
  · simp only [nn_some, add_mk, Nat.zero_add, Nat.add_zero, Nat.reduceAdd, Nat.reduceMul, Option.isNone_some, Option.isNone_none, br_true, br_false, Bool.not_true, Bool.not_false, xI_eq, xB_eq, xS_eq, xP_eq, xL_eq, x0_eq, x2_eq, x3_eq, chk_eq, true_and, and_true, List.set_cons_zero, List.set_cons_succ, List.eraseIdx_cons_zero, List.eraseIdx_cons_succ]
    have e : decide (i < (D.safe.length : Int)) = decide (D.is i) := decide_eq_decide.2 (by unfold Disk.is; omega)
    rw [e]; exact hK
  · have e : false = decide (D.is i) := (decide_eq_false (by unfold Disk.is; omega)).symm
    rw [e]; exact hK

theorem Disk_fails_spec {K : VK} (h : St W w L) (hk : L[k]? = some (disk d D)) (hK : ∀ w', St W w' (L.set k (disk d D.tick)) → K (.bool D.fails) w') : platter_Disk_fails (some ⟨d, 0, none⟩) K w := by
  obtain ⟨sb, sc, lb, lc, hs⟩ := disk_open h hk
  unfold platter_Disk_fails
  simp only [nn_some, add_mk, Nat.zero_add, Nat.add_zero, Nat.reduceAdd, Nat.reduceMul, Option.isNone_some, Option.isNone_none, br_true, br_false, Bool.not_true, Bool.not_false, xI_eq, xB_eq, xS_eq, xP_eq, xL_eq, x0_eq, x2_eq, x3_eq, chk_eq, true_and, and_true, List.set_cons_zero, List.set_cons_succ, List.eraseIdx_cons_zero, List.eraseIdx_cons_succ]
  refine ld_pt (k := 0) hs rfl rfl ?_
  simp only [nn_some, add_mk, Nat.zero_add, Nat.add_zero, Nat.reduceAdd, Nat.reduceMul, Option.isNone_some, Option.isNone_none, br_true, br_false, Bool.not_true, Bool.not_false, xI_eq, xB_eq, xS_eq, xP_eq, xL_eq, x0_eq, x2_eq, x3_eq, chk_eq, true_and, and_true, List.set_cons_zero, List.set_cons_succ, List.eraseIdx_cons_zero, List.eraseIdx_cons_succ]
  refine st_pt (k := 0) hs rfl (Nat.le_of_ble_eq_true rfl) rfl fun w hs => ?_
  simp only [nn_some, add_mk, Nat.zero_add, Nat.add_zero, Nat.reduceAdd, Nat.reduceMul, Option.isNone_some, Option.isNone_none, br_true, br_false, Bool.not_true, Bool.not_false, xI_eq, xB_eq, xS_eq, xP_eq, xL_eq, x0_eq, x2_eq, x3_eq, chk_eq, true_and, and_true, List.set_cons_zero, List.set_cons_succ, List.eraseIdx_cons_zero, List.eraseIdx_cons_succ] at hs
  refine ld_pt (k := 0) hs rfl rfl ?_
  simp only [nn_some, add_mk, Nat.zero_add, Nat.add_zero, Nat.reduceAdd, Nat.reduceMul, Option.isNone_some, Option.isNone_none, br_true, br_false, Bool.not_true, Bool.not_false, xI_eq, xB_eq, xS_eq, xP_eq, xL_eq, x0_eq, x2_eq, x3_eq, chk_eq, true_and, and_true, List.set_cons_zero, List.set_cons_succ, List.eraseIdx_cons_zero, List.eraseIdx_cons_succ]
  refine br_eq (fun h0 => ?_) (fun h0 => ?_)
  · have e : D.tick = ⟨D.safe, D.later, IntKind.i64.wrap (D.ops + 1), D.arm⟩ := by simp [Disk.tick, h0]
    have e2 : D.fails = false := by simp [Disk.fails, h0]
    rw [e, e2] at hK
    exact hK _ (disk_close hk rfl rfl hs)
  · refine ld_pt (k := 0) hs rfl rfl ?_
    simp only [nn_some, add_mk, Nat.zero_add, Nat.add_zero, Nat.reduceAdd, Nat.reduceMul, Option.isNone_some, Option.isNone_none, br_true, br_false, Bool.not_true, Bool.not_false, xI_eq, xB_eq, xS_eq, xP_eq, xL_eq, x0_eq, x2_eq, x3_eq, chk_eq, true_and, and_true, List.set_cons_zero, List.set_cons_succ, List.eraseIdx_cons_zero, List.eraseIdx_cons_succ]
    refine st_pt (k := 0) hs rfl (Nat.le_of_ble_eq_true rfl) rfl fun w hs => ?_
    simp only [nn_some, add_mk, Nat.zero_add, Nat.add_zero, Nat.reduceAdd, Nat.reduceMul, Option.isNone_some, Option.isNone_none, br_true, br_false, Bool.not_true, Bool.not_false, xI_eq, xB_eq, xS_eq, xP_eq, xL_eq, x0_eq, x2_eq, x3_eq, chk_eq, true_and, and_true, List.set_cons_zero, List.set_cons_succ, List.eraseIdx_cons_zero, List.eraseIdx_cons_succ] at hs
    refine ld_pt (k := 0) hs rfl rfl ?_
    simp only [nn_some, add_mk, Nat.zero_add, Nat.add_zero, Nat.reduceAdd, Nat.reduceMul, Option.isNone_some, Option.isNone_none, br_true, br_false, Bool.not_true, Bool.not_false, xI_eq, xB_eq, xS_eq, xP_eq, xL_eq, x0_eq, x2_eq, x3_eq, chk_eq, true_and, and_true, List.set_cons_zero, List.set_cons_succ, List.eraseIdx_cons_zero, List.eraseIdx_cons_succ]
    have e : D.tick = ⟨D.safe, D.later, IntKind.i64.wrap (D.ops + 1), IntKind.i64.wrap (D.arm - 1)⟩ := by simp [Disk.tick, h0]
    have e2 : D.fails = (IntKind.i64.wrap (D.arm - 1) == 0) := by simp [Disk.fails, h0]
    rw [e, e2] at hK
    exact hK _ (disk_close hk rfl rfl hs)

end
end Go.Sep
