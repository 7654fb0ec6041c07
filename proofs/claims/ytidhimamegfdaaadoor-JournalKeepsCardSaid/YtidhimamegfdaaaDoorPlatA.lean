/- PlatA: Plat0, Plat1, Plat2, Plat3, Plat4, Ro, merged: part of the proof: see the last text. -/
import Derived.Test.YtidhimamegfdaaaDoorSepA
import Derived.Test.YtidhimamegfdaaaDoorTransM
/- What a disk is (layer 4), in plain Lean. -/
namespace Go.Plat
open Go.Den

def zeros (n : Nat) : ByteArray := ⟨(List.replicate n 0).toArray⟩
theorem zeros_size (n : Nat) : (zeros n).size = n := by simp [zeros, ByteArray.size]

structure Disk where
  safe : List ByteArray
  later : List (Int × ByteArray)
  ops : Int
  arm : Int

namespace Disk
def new (n : Int) : Disk := ⟨List.replicate (min2 (max2 n 0) 4096).toNat (zeros 128), [], 0, 0⟩

def is (D : Disk) (i : Int) : Prop := 0 ≤ i ∧ i < D.safe.length
instance (D : Disk) (i : Int) : Decidable (D.is i) := by unfold is; infer_instance

/-- An operation is counted, and perhaps it fails. -/
def tick (D : Disk) : Disk := { D with ops := IntKind.i64.wrap (D.ops + 1), arm := if D.arm = 0 then 0 else IntKind.i64.wrap (D.arm - 1) }
def fails (D : Disk) : Bool := !(D.arm == 0) && (IntKind.i64.wrap (D.arm - 1) == 0)

/-- The last one of the writes into a sector. -/
def last (l : List (Int × ByteArray)) (i : Int) : Option ByteArray := (l.reverse.find? fun p => p.1 == i).map (·.2)

def now (D : Disk) (i : Int) : ByteArray := (last D.later i).getD (D.safe.getD i.toNat .empty)

def read (D : Disk) (i : Int) : ByteArray × Int := if D.is i then (D.now i, 0) else (.empty, 1)

def pad (s : ByteArray) : ByteArray := s ++ zeros (128 - s.size)

def write (D : Disk) (i : Int) (s : ByteArray) : Disk × Int :=
  if ¬ D.is i ∨ 128 < s.size then (D, 1) else if D.fails then (D.tick, 8) else ({ D.tick with later := D.later ++ [(i, pad s)] }, 0)

def put (safe : List ByteArray) (p : Int × ByteArray) : List ByteArray := safe.set p.1.toNat p.2

def sync (D : Disk) : Disk × Int := if D.fails then (D.tick, 8) else ({ D.tick with safe := D.later.foldl put D.safe, later := [] }, 0)

/-- Does the k-th write persist? -/
def bit (mask : Int) (k : Int) : Bool := isum .u64 .and (shr .u64 mask (min2 k 63)) 1 == 1

def crashAt (mask torn c : Int) (safe : List ByteArray) (k : Nat) (p : Int × ByteArray) : List ByteArray :=
  if (k : Int) = torn then safe.set p.1.toNat (p.2.extract 0 c.toNat ++ (safe.getD p.1.toNat .empty).extract c.toNat (safe.getD p.1.toNat .empty).size)
  else if bit mask k then safe.set p.1.toNat p.2 else safe

def crashFrom (mask torn c : Int) : Nat → List (Int × ByteArray) → List ByteArray → List ByteArray
  | _, [], safe => safe
  | k, p :: r, safe => crashFrom mask torn c (k + 1) r (crashAt mask torn c safe k p)

def crash (D : Disk) (mask torn cut : Int) : Disk :=
  { D with safe := crashFrom mask torn (min2 (max2 cut 0) 128) 0 D.later D.safe, later := [], arm := 0 }

def armed (D : Disk) (n : Int) : Disk := { D with arm := max2 n 0 }

/-- All sectors are whole, all writes are of sectors that there are. -/
structure Ok (D : Disk) : Prop where
  safe : ∀ s ∈ D.safe, s.size = 128
  later : ∀ p ∈ D.later, p.2.size = 128 ∧ 0 ≤ p.1 ∧ p.1 < D.safe.length
  few : D.safe.length ≤ 4096
  less : D.later.length < 1099511627776
end Disk
end Go.Plat

/- A disk in memory; its calls. -/
namespace Go.Sep
open Go.Den Go.RowKit Go.Prog Go.Plat
set_option linter.unusedSimpArgs false
set_option linter.unusedVariables false

def laterCells (l : List (Int × ByteArray)) : List Value := l.flatMap fun p => [.int .i64 p.1, .string p.2]

theorem laterCells_length (l : List (Int × ByteArray)) : (laterCells l).length = l.length * 2 := by
  induction l with
  | nil => rfl
  | cons p l ih => simp [laterCells] at ih ⊢; omega

theorem laterCells_get (l : List (Int × ByteArray)) (i : Nat) (p : Int × ByteArray) (h : l[i]? = some p) :
    (laterCells l)[i * 2]? = some (.int .i64 p.1) ∧ (laterCells l)[i * 2 + 1]? = some (.string p.2) := by
  induction l generalizing i with
  | nil => simp at h
  | cons q l ih =>
    cases i with
    | zero => simp at h; subst h; exact ⟨rfl, rfl⟩
    | succ i =>
      simp only [List.getElem?_cons_succ] at h
      have := ih i h
      rw [show (i + 1) * 2 = (i * 2) + 2 from by omega, show i * 2 + 2 + 1 = (i * 2 + 1) + 2 from by omega]
      exact this

def diskCells (sb lb : Option Addr) (n sc m lc : Nat) (ops arm : Int) : List Value := [.slice sb n sc, .slice lb m lc, .int .i64 ops, .int .i64 arm]

/-- A disk in block 'd'. -/
def disk (d : Nat) (D : Disk) : HP := exH fun (v : (Option Addr × Nat) × (Option Addr × Nat)) =>
  sep (pt d (diskCells v.1.1 v.2.1 D.safe.length v.1.2 D.later.length v.2.2 D.ops D.arm))
    (sep (own v.1.1 D.safe.length v.1.2 1 (D.safe.map .string)) (own v.2.1 D.later.length v.2.2 2 (laterCells D.later)))

section
variable {W w : World} {L : List HP} {k d : Nat} {D : Disk}

theorem disk_open (h : St W w L) (hk : L[k]? = some (disk d D)) : ∃ sb sc lb lc,
    St W w (pt d (diskCells sb lb D.safe.length sc D.later.length lc D.ops D.arm) :: own sb D.safe.length sc 1 (D.safe.map .string) :: own lb D.later.length lc 2 (laterCells D.later) :: L.eraseIdx k) := by
  obtain ⟨⟨⟨sb, sc⟩, lb, lc⟩, h1⟩ := (h.focus hk).ex
  have h2 := h1.split
  have h3 := (h2.perm (List.Perm.swap _ _ _)).split
  refine ⟨sb, sc, lb, lc, h3.perm ?_⟩
  exact (List.Perm.cons _ (List.Perm.swap _ _ _)).trans (List.Perm.swap _ _ _)

theorem disk_close {sb lb : Option Addr} {sc lc n m : Nat} {safe : List ByteArray} {later : List (Int × ByteArray)} {ops arm : Int} {A : HP} (hk : L[k]? = some A) (hn : n = safe.length) (hm : m = later.length)
    (h : St W w (pt d (diskCells sb lb n sc m lc ops arm) :: own sb n sc 1 (safe.map .string) :: own lb m lc 2 (laterCells later) :: L.eraseIdx k)) : St W w (L.set k (disk d ⟨safe, later, ops, arm⟩)) := by
  subst hn hm
  refine St.unfocus (A := A) ?_ hk
  refine St.ex_intro ((sb, sc), (lb, lc)) (St.join ?_)
  refine St.perm ?_ (List.Perm.swap _ _ _)
  exact St.join (h.perm ((List.Perm.swap _ _ _).trans (List.Perm.cons _ (List.Perm.swap _ _ _))))

theorem disk_read (h : St W w L) (hk : L[k]? = some (disk d D)) : ∃ sb sc lb lc, w.cell? ⟨d, 0, none⟩ = some (.slice sb D.safe.length sc) ∧ w.cell? ⟨d, 1, none⟩ = some (.slice lb D.later.length lc) ∧
    w.cell? ⟨d, 2, none⟩ = some (.int .i64 D.ops) ∧ w.cell? ⟨d, 3, none⟩ = some (.int .i64 D.arm) := by
  obtain ⟨sb, sc, lb, lc, hs⟩ := disk_open h hk
  exact ⟨sb, sc, lb, lc, (hs.cell (k := 0) rfl).1, (hs.cell (k := 0) rfl).1, (hs.cell (k := 0) rfl).1, (hs.cell (k := 0) rfl).1⟩

theorem Disk_is_spec {i : Int} {K : VK} (h : St W w L) (hk : L[k]? = some (disk d D)) (hK : K (.bool (decide (D.is i))) w) : platter_Disk_is (some ⟨d, 0, none⟩) i K w := by
  obtain ⟨sb, sc, lb, lc, h0, _⟩ := disk_read h hk
  unfold platter_Disk_is
  simp only [nn_some, add_mk, Nat.zero_add, Nat.add_zero, Nat.reduceAdd, Nat.reduceMul, Option.isNone_some, Option.isNone_none, br_true, br_false, Bool.not_true, Bool.not_false, xI_eq, xB_eq, xS_eq, xP_eq, xL_eq, x0_eq, x2_eq, x3_eq, chk_eq, true_and, and_true, List.set_cons_zero, List.set_cons_succ, List.eraseIdx_cons_zero, List.eraseIdx_cons_succ]
  refine br_dec (fun hi => ld_of h0 ?_) (fun hi => ?_)
  · simp only [nn_some, add_mk, Nat.zero_add, Nat.add_zero, Nat.reduceAdd, Nat.reduceMul, Option.isNone_some, Option.isNone_none, br_true, br_false, Bool.not_true, Bool.not_false, xI_eq, xB_eq, xS_eq, xP_eq, xL_eq, x0_eq, x2_eq, x3_eq, chk_eq, true_and, and_true, List.set_cons_zero, List.set_cons_succ, List.eraseIdx_cons_zero, List.eraseIdx_cons_succ]
    have e : decide (i < (D.safe.length : Int)) = decide (D.is i) := decide_eq_decide.2 (by unfold Disk.is; omega)
    rw [e]; exact hK
  · have e : false = decide (D.is i) := (decide_eq_false (by unfold Disk.is; omega)).symm
    rw [e]; exact hK

theorem Disk_fails_spec {K : VK} (h : St W w L) (hk : L[k]? = some (disk d D)) (hK : ∀ w', St W w' (L.set k (disk d D.tick)) → K (.bool D.fails) w') : platter_Disk_fails (some ⟨d, 0, none⟩) K w := by
  obtain ⟨sb, sc, lb, lc, hs⟩ := disk_open h hk
  unfold platter_Disk_fails
  simp only [nn_some, add_mk, Nat.zero_add, Nat.add_zero, Nat.reduceAdd, Nat.reduceMul, Option.isNone_some, Option.isNone_none, br_true, br_false, Bool.not_true, Bool.not_false, xI_eq, xB_eq, xS_eq, xP_eq, xL_eq, x0_eq, x2_eq, x3_eq, chk_eq, true_and, and_true, List.set_cons_zero, List.set_cons_succ, List.eraseIdx_cons_zero, List.eraseIdx_cons_succ]
  refine ld_pt (k := 0) hs rfl rfl ?_
  simp only [nn_some, add_mk, Nat.zero_add, Nat.add_zero, Nat.reduceAdd, Nat.reduceMul, Option.isNone_some, Option.isNone_none, br_true, br_false, Bool.not_true, Bool.not_false, xI_eq, xB_eq, xS_eq, xP_eq, xL_eq, x0_eq, x2_eq, x3_eq, chk_eq, true_and, and_true, List.set_cons_zero, List.set_cons_succ, List.eraseIdx_cons_zero, List.eraseIdx_cons_succ]
  refine st_pt (k := 0) hs rfl (Nat.le_of_ble_eq_true rfl) rfl fun w hs => ?_
  simp only [nn_some, add_mk, Nat.zero_add, Nat.add_zero, Nat.reduceAdd, Nat.reduceMul, Option.isNone_some, Option.isNone_none, br_true, br_false, Bool.not_true, Bool.not_false, xI_eq, xB_eq, xS_eq, xP_eq, xL_eq, x0_eq, x2_eq, x3_eq, chk_eq, true_and, and_true, List.set_cons_zero, List.set_cons_succ, List.eraseIdx_cons_zero, List.eraseIdx_cons_succ] at hs
  refine ld_pt (k := 0) hs rfl rfl ?_
  simp only [nn_some, add_mk, Nat.zero_add, Nat.add_zero, Nat.reduceAdd, Nat.reduceMul, Option.isNone_some, Option.isNone_none, br_true, br_false, Bool.not_true, Bool.not_false, xI_eq, xB_eq, xS_eq, xP_eq, xL_eq, x0_eq, x2_eq, x3_eq, chk_eq, true_and, and_true, List.set_cons_zero, List.set_cons_succ, List.eraseIdx_cons_zero, List.eraseIdx_cons_succ]
  refine br_eq (fun h0 => ?_) (fun h0 => ?_)
  · have e : D.tick = ⟨D.safe, D.later, IntKind.i64.wrap (D.ops + 1), D.arm⟩ := by simp [Disk.tick, h0]
    have e2 : D.fails = false := by simp [Disk.fails, h0]
    rw [e, e2] at hK
    exact hK _ (disk_close hk rfl rfl hs)
  · refine ld_pt (k := 0) hs rfl rfl ?_
    simp only [nn_some, add_mk, Nat.zero_add, Nat.add_zero, Nat.reduceAdd, Nat.reduceMul, Option.isNone_some, Option.isNone_none, br_true, br_false, Bool.not_true, Bool.not_false, xI_eq, xB_eq, xS_eq, xP_eq, xL_eq, x0_eq, x2_eq, x3_eq, chk_eq, true_and, and_true, List.set_cons_zero, List.set_cons_succ, List.eraseIdx_cons_zero, List.eraseIdx_cons_succ]
    refine st_pt (k := 0) hs rfl (Nat.le_of_ble_eq_true rfl) rfl fun w hs => ?_
    simp only [nn_some, add_mk, Nat.zero_add, Nat.add_zero, Nat.reduceAdd, Nat.reduceMul, Option.isNone_some, Option.isNone_none, br_true, br_false, Bool.not_true, Bool.not_false, xI_eq, xB_eq, xS_eq, xP_eq, xL_eq, x0_eq, x2_eq, x3_eq, chk_eq, true_and, and_true, List.set_cons_zero, List.set_cons_succ, List.eraseIdx_cons_zero, List.eraseIdx_cons_succ] at hs
    refine ld_pt (k := 0) hs rfl rfl ?_
    simp only [nn_some, add_mk, Nat.zero_add, Nat.add_zero, Nat.reduceAdd, Nat.reduceMul, Option.isNone_some, Option.isNone_none, br_true, br_false, Bool.not_true, Bool.not_false, xI_eq, xB_eq, xS_eq, xP_eq, xL_eq, x0_eq, x2_eq, x3_eq, chk_eq, true_and, and_true, List.set_cons_zero, List.set_cons_succ, List.eraseIdx_cons_zero, List.eraseIdx_cons_succ]
    have e : D.tick = ⟨D.safe, D.later, IntKind.i64.wrap (D.ops + 1), IntKind.i64.wrap (D.arm - 1)⟩ := by simp [Disk.tick, h0]
    have e2 : D.fails = (IntKind.i64.wrap (D.arm - 1) == 0) := by simp [Disk.fails, h0]
    rw [e, e2] at hK
    exact hK _ (disk_close hk rfl rfl hs)

end
end Go.Sep

/- A disk in memory; its calls: New, Read, Write, Arm, and what counts. -/
namespace Go.Sep
open Go.Den Go.RowKit Go.Prog Go.Plat
set_option linter.unusedSimpArgs false
set_option linter.unusedVariables false

section
variable {W w : World} {L : List HP} {k d : Nat} {D : Disk}

theorem repL_one (c : UInt8) : ∀ n, repL [c] n = List.replicate n c
  | 0 => rfl
  | n + 1 => by simp [repL, repL_one c n, List.replicate_succ]

theorem Repeat_spec {s : ByteArray} {n : Int} {K : VK} (h : St W w L) (h0 : 0 ≤ n) (h1 : s.size * n.toNat ≤ 140737488355328) (h2 : n ≤ 9223372036854775807) (hK : ∀ w', St W w' L → K (.string ⟨(repL s.data.toList n.toNat).toArray⟩) w') : strings_Repeat s n K w :=
  ⟨⟨h0, h1, h2⟩, fun w' hb => hK w' (h.below_trans hb)⟩

theorem blank_spec {K : VK} (h : St W w L) (hK : ∀ w', St W w' L → K (.string (zeros 128)) w') : platter_blank K w := by
  unfold platter_blank
  refine Repeat_spec h (by decide) (by decide) (by decide) fun w h => ?_
  simp only [nn_some, add_mk, Nat.zero_add, Nat.add_zero, Nat.reduceAdd, Nat.reduceMul, Option.isNone_some, Option.isNone_none, br_true, br_false, Bool.not_true, Bool.not_false, xI_eq, xB_eq, xS_eq, xP_eq, xL_eq, x0_eq, x2_eq, x3_eq, chk_eq, true_and, and_true, List.set_cons_zero, List.set_cons_succ, List.eraseIdx_cons_zero, List.eraseIdx_cons_succ]
  have e : (⟨(repL (⟨#[0]⟩ : ByteArray).data.toList (128 : Int).toNat).toArray⟩ : ByteArray) = zeros 128 := by
    show (⟨(repL [0] 128).toArray⟩ : ByteArray) = _
    rw [repL_one]; rfl
  rw [e]; exact hK w h

theorem Disk_Sectors_spec {K : VK} (h : St W w L) (hk : L[k]? = some (disk d D)) (hK : K (.int .i64 (D.safe.length : Int)) w) : platter_Disk_Sectors (some ⟨d, 0, none⟩) K w := by
  obtain ⟨sb, sc, lb, lc, h0, h1, h2, h3⟩ := disk_read h hk
  unfold platter_Disk_Sectors
  simp only [nn_some, add_mk, Nat.zero_add, Nat.add_zero, Nat.reduceAdd, Nat.reduceMul, Option.isNone_some, Option.isNone_none, br_true, br_false, Bool.not_true, Bool.not_false, xI_eq, xB_eq, xS_eq, xP_eq, xL_eq, x0_eq, x2_eq, x3_eq, chk_eq, true_and, and_true, List.set_cons_zero, List.set_cons_succ, List.eraseIdx_cons_zero, List.eraseIdx_cons_succ]
  refine ld_of h0 ?_
  simp only [nn_some, add_mk, Nat.zero_add, Nat.add_zero, Nat.reduceAdd, Nat.reduceMul, Option.isNone_some, Option.isNone_none, br_true, br_false, Bool.not_true, Bool.not_false, xI_eq, xB_eq, xS_eq, xP_eq, xL_eq, x0_eq, x2_eq, x3_eq, chk_eq, true_and, and_true, List.set_cons_zero, List.set_cons_succ, List.eraseIdx_cons_zero, List.eraseIdx_cons_succ]
  exact hK

theorem Disk_Later_spec {K : VK} (h : St W w L) (hk : L[k]? = some (disk d D)) (hK : K (.int .i64 (D.later.length : Int)) w) : platter_Disk_Later (some ⟨d, 0, none⟩) K w := by
  obtain ⟨sb, sc, lb, lc, h0, h1, h2, h3⟩ := disk_read h hk
  unfold platter_Disk_Later
  simp only [nn_some, add_mk, Nat.zero_add, Nat.add_zero, Nat.reduceAdd, Nat.reduceMul, Option.isNone_some, Option.isNone_none, br_true, br_false, Bool.not_true, Bool.not_false, xI_eq, xB_eq, xS_eq, xP_eq, xL_eq, x0_eq, x2_eq, x3_eq, chk_eq, true_and, and_true, List.set_cons_zero, List.set_cons_succ, List.eraseIdx_cons_zero, List.eraseIdx_cons_succ]
  refine ld_of h1 ?_
  simp only [nn_some, add_mk, Nat.zero_add, Nat.add_zero, Nat.reduceAdd, Nat.reduceMul, Option.isNone_some, Option.isNone_none, br_true, br_false, Bool.not_true, Bool.not_false, xI_eq, xB_eq, xS_eq, xP_eq, xL_eq, x0_eq, x2_eq, x3_eq, chk_eq, true_and, and_true, List.set_cons_zero, List.set_cons_succ, List.eraseIdx_cons_zero, List.eraseIdx_cons_succ]
  exact hK

theorem Disk_Ops_spec {K : VK} (h : St W w L) (hk : L[k]? = some (disk d D)) (hK : K (.int .i64 D.ops) w) : platter_Disk_Ops (some ⟨d, 0, none⟩) K w := by
  obtain ⟨sb, sc, lb, lc, h0, h1, h2, h3⟩ := disk_read h hk
  unfold platter_Disk_Ops
  simp only [nn_some, add_mk, Nat.zero_add, Nat.add_zero, Nat.reduceAdd, Nat.reduceMul, Option.isNone_some, Option.isNone_none, br_true, br_false, Bool.not_true, Bool.not_false, xI_eq, xB_eq, xS_eq, xP_eq, xL_eq, x0_eq, x2_eq, x3_eq, chk_eq, true_and, and_true, List.set_cons_zero, List.set_cons_succ, List.eraseIdx_cons_zero, List.eraseIdx_cons_succ]
  refine ld_of h2 ?_
  simp only [nn_some, add_mk, Nat.zero_add, Nat.add_zero, Nat.reduceAdd, Nat.reduceMul, Option.isNone_some, Option.isNone_none, br_true, br_false, Bool.not_true, Bool.not_false, xI_eq, xB_eq, xS_eq, xP_eq, xL_eq, x0_eq, x2_eq, x3_eq, chk_eq, true_and, and_true, List.set_cons_zero, List.set_cons_succ, List.eraseIdx_cons_zero, List.eraseIdx_cons_succ]
  exact hK

theorem Disk_Arm_spec {n : Int} {K : VK} (h : St W w L) (hk : L[k]? = some (disk d D)) (hK : ∀ w', St W w' (L.set k (disk d (D.armed n))) → K (.tuple ⟨[]⟩) w') : platter_Disk_Arm (some ⟨d, 0, none⟩) n K w := by
  obtain ⟨sb, sc, lb, lc, hs⟩ := disk_open h hk
  unfold platter_Disk_Arm
  simp only [nn_some, add_mk, Nat.zero_add, Nat.add_zero, Nat.reduceAdd, Nat.reduceMul, Option.isNone_some, Option.isNone_none, br_true, br_false, Bool.not_true, Bool.not_false, xI_eq, xB_eq, xS_eq, xP_eq, xL_eq, x0_eq, x2_eq, x3_eq, chk_eq, true_and, and_true, List.set_cons_zero, List.set_cons_succ, List.eraseIdx_cons_zero, List.eraseIdx_cons_succ]
  refine st_pt (k := 0) hs rfl (Nat.le_of_ble_eq_true rfl) rfl fun w hs => ?_
  simp only [nn_some, add_mk, Nat.zero_add, Nat.add_zero, Nat.reduceAdd, Nat.reduceMul, Option.isNone_some, Option.isNone_none, br_true, br_false, Bool.not_true, Bool.not_false, xI_eq, xB_eq, xS_eq, xP_eq, xL_eq, x0_eq, x2_eq, x3_eq, chk_eq, true_and, and_true, List.set_cons_zero, List.set_cons_succ, List.eraseIdx_cons_zero, List.eraseIdx_cons_succ] at hs
  exact hK _ (disk_close hk rfl rfl hs)

theorem strEx (s : ByteArray) (i j : Nat) : (s.extract i j).size = min j s.size - i := by simp [ByteArray.size_extract]

theorem zeros_extract (n i : Nat) : (zeros n).extract i n = zeros (n - i) := by
  apply ByteArray.ext
  simp [zeros, ByteArray.data_extract]

theorem Disk_Write_j1_spec {i : Int} {s : ByteArray} {b : Bool} {K : VK} (h : St W w L) (hk : L[k]? = some (disk d D)) (hok : D.Ok) (hb : b = decide (128 < s.size)) (hi : D.is i)
    (hK : ∀ w', St W w' (L.set k (disk d (D.write i s).1)) → K (.int .i64 (D.write i s).2) w') : platter_Disk_Write.j1 K (some ⟨d, 0, none⟩) s i b w := by
  unfold platter_Disk_Write.j1
  refine br_of (fun h1 => ?_) (fun h1 => ?_)
  · have h2 : 128 < s.size := by rw [hb] at h1; exact of_decide_eq_true h1
    have e : D.write i s = (D, 1) := by simp [Disk.write, h2]
    rw [e] at hK
    refine hK w ?_
    rw [set_same hk]; exact h
  · have h2 : ¬ 128 < s.size := by rw [hb] at h1; exact of_decide_eq_false h1
    refine Disk_fails_spec h hk fun w h => ?_
    simp only [nn_some, add_mk, Nat.zero_add, Nat.add_zero, Nat.reduceAdd, Nat.reduceMul, Option.isNone_some, Option.isNone_none, br_true, br_false, Bool.not_true, Bool.not_false, xI_eq, xB_eq, xS_eq, xP_eq, xL_eq, x0_eq, x2_eq, x3_eq, chk_eq, true_and, and_true, List.set_cons_zero, List.set_cons_succ, List.eraseIdx_cons_zero, List.eraseIdx_cons_succ]
    refine br_of (fun h3 => ?_) (fun h3 => ?_)
    · have e : D.write i s = (D.tick, 8) := by simp [Disk.write, h2, hi, h3]
      rw [e] at hK
      exact hK w h
    · have e : D.write i s = ({ D.tick with later := D.later ++ [(i, Disk.pad s)] }, 0) := by simp [Disk.write, h2, hi, h3]
      rw [e] at hK
      refine tick_of h fun w h => ?_
      have hk2 : (L.set k (disk d D.tick))[k]? = some (disk d D.tick) := set_get hk
      obtain ⟨sb, sc, lb, lc, hs⟩ := disk_open h hk2
      refine ld_pt (k := 0) hs rfl rfl ?_
      simp only [nn_some, add_mk, Nat.zero_add, Nat.add_zero, Nat.reduceAdd, Nat.reduceMul, Option.isNone_some, Option.isNone_none, br_true, br_false, Bool.not_true, Bool.not_false, xI_eq, xB_eq, xS_eq, xP_eq, xL_eq, x0_eq, x2_eq, x3_eq, chk_eq, true_and, and_true, List.set_cons_zero, List.set_cons_succ, List.eraseIdx_cons_zero, List.eraseIdx_cons_succ]
      refine blank_spec hs fun w hs => ?_
      simp only [nn_some, add_mk, Nat.zero_add, Nat.add_zero, Nat.reduceAdd, Nat.reduceMul, Option.isNone_some, Option.isNone_none, br_true, br_false, Bool.not_true, Bool.not_false, xI_eq, xB_eq, xS_eq, xP_eq, xL_eq, x0_eq, x2_eq, x3_eq, chk_eq, true_and, and_true, List.set_cons_zero, List.set_cons_succ, List.eraseIdx_cons_zero, List.eraseIdx_cons_succ]
      refine kp_one (k := 0) hs rfl rfl ?_
      have hsz : (zeros 128).size = 128 := zeros_size 128
      unfold slStr
      simp only [nn_some, add_mk, Nat.zero_add, Nat.add_zero, Nat.reduceAdd, Nat.reduceMul, Option.isNone_some, Option.isNone_none, br_true, br_false, Bool.not_true, Bool.not_false, xI_eq, xB_eq, xS_eq, xP_eq, xL_eq, x0_eq, x2_eq, x3_eq, chk_eq, true_and, and_true, List.set_cons_zero, List.set_cons_succ, List.eraseIdx_cons_zero, List.eraseIdx_cons_succ]
      refine ⟨⟨by omega, by omega⟩, ?_⟩
      have e3 : (zeros 128).extract (s.size : Int).toNat (zeros 128).size = zeros (128 - s.size) := by rw [hsz, Int.toNat_natCast]; exact zeros_extract 128 s.size
      rw [e3]
      refine ⟨by rw [zeros_size]; omega, ?_⟩
      refine mk_of hs fun r w hs => ?_
      refine kp_one (k := 1) hs rfl rfl ?_
      have hl : D.later.length < 1099511627776 := hok.less
      refine appSl_own (k := 3) (n := D.tick.later.length) (ys := [.int .i64 i, .string (Disk.pad s)]) hs rfl (Src_pt (k' := 0) hs rfl rfl fun j v hj => by rw [Nat.zero_add]; exact hj) (by simp) rfl
        (by show (D.later.length + 1) * 24 ≤ _; omega) (by show D.later.length + 1 ≤ _; omega) (by simp [Value.oneCell']) fun b' c' w hs => ?_
      simp only [nn_some, add_mk, Nat.zero_add, Nat.add_zero, Nat.reduceAdd, Nat.reduceMul, Option.isNone_some, Option.isNone_none, br_true, br_false, Bool.not_true, Bool.not_false, xI_eq, xB_eq, xS_eq, xP_eq, xL_eq, x0_eq, x2_eq, x3_eq, chk_eq, true_and, and_true, List.set_cons_zero, List.set_cons_succ, List.eraseIdx_cons_zero, List.eraseIdx_cons_succ] at hs ⊢
      refine st_pt (k := 1) hs rfl (Nat.le_of_ble_eq_true rfl) rfl fun w hs => ?_
      simp only [nn_some, add_mk, Nat.zero_add, Nat.add_zero, Nat.reduceAdd, Nat.reduceMul, Option.isNone_some, Option.isNone_none, br_true, br_false, Bool.not_true, Bool.not_false, xI_eq, xB_eq, xS_eq, xP_eq, xL_eq, x0_eq, x2_eq, x3_eq, chk_eq, true_and, and_true, List.set_cons_zero, List.set_cons_succ, List.eraseIdx_cons_zero, List.eraseIdx_cons_succ] at hs
      refine hK w ?_
      have e4 : laterCells D.tick.later ++ [.int .i64 i, .string (Disk.pad s)] = laterCells (D.later ++ [(i, Disk.pad s)]) := by simp [laterCells, Disk.tick]
      rw [e4] at hs
      have h5 := disk_close (sb := sb) (sc := sc) (lb := b') (lc := c') (safe := D.safe) (ops := D.tick.ops) (arm := D.tick.arm) hk2 rfl (by simp [Disk.tick]) hs.drop
      rw [List.set_set] at h5
      exact h5

theorem Disk_Write_spec {i : Int} {s : ByteArray} {K : VK} (h : St W w L) (hk : L[k]? = some (disk d D)) (hok : D.Ok)
    (hK : ∀ w', St W w' (L.set k (disk d (D.write i s).1)) → K (.int .i64 (D.write i s).2) w') : platter_Disk_Write (some ⟨d, 0, none⟩) i s K w := by
  unfold platter_Disk_Write
  simp only [nn_some, add_mk, Nat.zero_add, Nat.add_zero, Nat.reduceAdd, Nat.reduceMul, Option.isNone_some, Option.isNone_none, br_true, br_false, Bool.not_true, Bool.not_false, xI_eq, xB_eq, xS_eq, xP_eq, xL_eq, x0_eq, x2_eq, x3_eq, chk_eq, true_and, and_true, List.set_cons_zero, List.set_cons_succ, List.eraseIdx_cons_zero, List.eraseIdx_cons_succ]
  refine Disk_is_spec h hk ?_
  simp only [nn_some, add_mk, Nat.zero_add, Nat.add_zero, Nat.reduceAdd, Nat.reduceMul, Option.isNone_some, Option.isNone_none, br_true, br_false, Bool.not_true, Bool.not_false, xI_eq, xB_eq, xS_eq, xP_eq, xL_eq, x0_eq, x2_eq, x3_eq, chk_eq, true_and, and_true, List.set_cons_zero, List.set_cons_succ, List.eraseIdx_cons_zero, List.eraseIdx_cons_succ]
  by_cases hi : D.is i
  · rw [decide_eq_true hi]
    simp only [nn_some, add_mk, Nat.zero_add, Nat.add_zero, Nat.reduceAdd, Nat.reduceMul, Option.isNone_some, Option.isNone_none, br_true, br_false, Bool.not_true, Bool.not_false, xI_eq, xB_eq, xS_eq, xP_eq, xL_eq, x0_eq, x2_eq, x3_eq, chk_eq, true_and, and_true, List.set_cons_zero, List.set_cons_succ, List.eraseIdx_cons_zero, List.eraseIdx_cons_succ]
    refine Disk_Write_j1_spec h hk hok ?_ hi hK
    exact decide_eq_decide.2 (by omega)
  · rw [decide_eq_false hi]
    simp only [nn_some, add_mk, Nat.zero_add, Nat.add_zero, Nat.reduceAdd, Nat.reduceMul, Option.isNone_some, Option.isNone_none, br_true, br_false, Bool.not_true, Bool.not_false, xI_eq, xB_eq, xS_eq, xP_eq, xL_eq, x0_eq, x2_eq, x3_eq, chk_eq, true_and, and_true, List.set_cons_zero, List.set_cons_succ, List.eraseIdx_cons_zero, List.eraseIdx_cons_succ]
    have e : D.write i s = (D, 1) := by simp [Disk.write, hi]
    rw [e] at hK
    unfold platter_Disk_Write.j1
    simp only [nn_some, add_mk, Nat.zero_add, Nat.add_zero, Nat.reduceAdd, Nat.reduceMul, Option.isNone_some, Option.isNone_none, br_true, br_false, Bool.not_true, Bool.not_false, xI_eq, xB_eq, xS_eq, xP_eq, xL_eq, x0_eq, x2_eq, x3_eq, chk_eq, true_and, and_true, List.set_cons_zero, List.set_cons_succ, List.eraseIdx_cons_zero, List.eraseIdx_cons_succ]
    refine hK w ?_
    rw [set_same hk]; exact h

end
end Go.Sep

/- A disk in memory; its calls: Read, New. -/
namespace Go.Sep
open Go.Den Go.RowKit Go.Prog Go.Plat
set_option linter.unusedSimpArgs false
set_option linter.unusedVariables false

theorem wrap_id {n : Int} (h : -9223372036854775808 ≤ n ∧ n ≤ 9223372036854775807) : IntKind.i64.wrap n = n := by
  simp only [IntKind.wrap, IntKind.bits, IntKind.signed, Bool.true_and, decide_eq_true_eq, Int.reducePow, Nat.reduceSub, ge_iff_le]
  split <;> omega

theorem last_append (l m : List (Int × ByteArray)) (i : Int) : Disk.last (l ++ m) i = (Disk.last m i).or (Disk.last l i) := by
  unfold Disk.last
  rw [List.reverse_append, List.find?_append]
  cases List.find? (fun p => p.1 == i) m.reverse <;> simp

theorem last_cons (p : Int × ByteArray) (l : List (Int × ByteArray)) (i : Int) : Disk.last (p :: l) i = (Disk.last l i).or (if p.1 == i then some p.2 else none) := by
  rw [show p :: l = [p] ++ l from rfl, last_append]
  congr 1
  simp only [Disk.last, List.reverse_singleton, List.find?_cons, List.find?_nil]
  cases h : (p.1 == i) <;> simp

section
variable {W w : World} {L : List HP} {k d : Nat} {D : Disk}

theorem drop_cons {α : Type} {l : List α} {j : Nat} {p : α} (h : l[j]? = some p) : l.drop j = p :: l.drop (j + 1) := by
  obtain ⟨hj, he⟩ := List.getElem?_eq_some_iff.1 h
  rw [← he]; exact List.drop_eq_getElem_cons hj

theorem Disk_Read_spec {i : Int} {K : VK} (h : St W w L) (hk : L[k]? = some (disk d D)) (hok : D.Ok) (hK : K (.tuple ⟨[.string (D.read i).1, .int .i64 (D.read i).2]⟩) w) : platter_Disk_Read (some ⟨d, 0, none⟩) i K w := by
  obtain ⟨sb, sc, lb, lc, hs⟩ := disk_open h hk
  have hl := hok.less
  unfold platter_Disk_Read
  simp only [nn_some, add_mk, Nat.zero_add, Nat.add_zero, Nat.reduceAdd, Nat.reduceMul, Option.isNone_some, Option.isNone_none, br_true, br_false, Bool.not_true, Bool.not_false, xI_eq, xB_eq, xS_eq, xP_eq, xL_eq, x0_eq, x2_eq, x3_eq, chk_eq, true_and, and_true, List.set_cons_zero, List.set_cons_succ, List.eraseIdx_cons_zero, List.eraseIdx_cons_succ]
  refine Disk_is_spec h hk ?_
  simp only [nn_some, add_mk, Nat.zero_add, Nat.add_zero, Nat.reduceAdd, Nat.reduceMul, Option.isNone_some, Option.isNone_none, br_true, br_false, Bool.not_true, Bool.not_false, xI_eq, xB_eq, xS_eq, xP_eq, xL_eq, x0_eq, x2_eq, x3_eq, chk_eq, true_and, and_true, List.set_cons_zero, List.set_cons_succ, List.eraseIdx_cons_zero, List.eraseIdx_cons_succ]
  by_cases hi : D.is i
  case neg =>
    rw [decide_eq_false hi]
    simp only [nn_some, add_mk, Nat.zero_add, Nat.add_zero, Nat.reduceAdd, Nat.reduceMul, Option.isNone_some, Option.isNone_none, br_true, br_false, Bool.not_true, Bool.not_false, xI_eq, xB_eq, xS_eq, xP_eq, xL_eq, x0_eq, x2_eq, x3_eq, chk_eq, true_and, and_true, List.set_cons_zero, List.set_cons_succ, List.eraseIdx_cons_zero, List.eraseIdx_cons_succ]
    have e : D.read i = (.empty, 1) := by simp [Disk.read, hi]
    rw [e] at hK; exact hK
  rw [decide_eq_true hi]
  simp only [nn_some, add_mk, Nat.zero_add, Nat.add_zero, Nat.reduceAdd, Nat.reduceMul, Option.isNone_some, Option.isNone_none, br_true, br_false, Bool.not_true, Bool.not_false, xI_eq, xB_eq, xS_eq, xP_eq, xL_eq, x0_eq, x2_eq, x3_eq, chk_eq, true_and, and_true, List.set_cons_zero, List.set_cons_succ, List.eraseIdx_cons_zero, List.eraseIdx_cons_succ]
  have e : D.read i = (D.now i, 0) := by simp [Disk.read, hi]
  rw [e] at hK
  refine ld_pt (k := 0) hs rfl rfl ?_
  simp only [nn_some, add_mk, Nat.zero_add, Nat.add_zero, Nat.reduceAdd, Nat.reduceMul, Option.isNone_some, Option.isNone_none, br_true, br_false, Bool.not_true, Bool.not_false, xI_eq, xB_eq, xS_eq, xP_eq, xL_eq, x0_eq, x2_eq, x3_eq, chk_eq, true_and, and_true, List.set_cons_zero, List.set_cons_succ, List.eraseIdx_cons_zero, List.eraseIdx_cons_succ]
  refine ⟨fun us w' => ∃ j : Nat, us = [.string .empty, .int .i64 0, .int .i64 ((j : Int) - 1)] ∧ w' = w ∧ j ≤ D.later.length ∧ Disk.last (D.later.drop j) i = none,
    fun us _ => match us with | [_, _, .int _ n] => (n + 1).toNat | _ => 0, ⟨D.later.length, by rw [wrap_id (by omega)], rfl, Nat.le_refl _, by simp [Disk.last]⟩, ?_⟩
  rintro s1 n2 n3 w2 ⟨j, he, rfl, hj, hn⟩
  cases he
  refine br_dec (fun h0 => ?_) (fun h0 => ?_)
  · obtain ⟨m, rfl⟩ : ∃ m, j = m + 1 := ⟨j - 1, by omega⟩
    have hlt : m < D.later.length := by omega
    obtain ⟨p, hp⟩ : ∃ p, D.later[m]? = some p := ⟨D.later[m], by simp [hlt]⟩
    obtain ⟨hp1, hp2⟩ := laterCells_get _ _ _ hp
    have em : ((m + 1 : Nat) : Int) - 1 = (m : Int) := by omega
    rw [em]
    refine ld_pt (k := 0) hs rfl rfl ?_
    simp only [nn_some, add_mk, Nat.zero_add, Nat.add_zero, Nat.reduceAdd, Nat.reduceMul, Option.isNone_some, Option.isNone_none, br_true, br_false, Bool.not_true, Bool.not_false, xI_eq, xB_eq, xS_eq, xP_eq, xL_eq, x0_eq, x2_eq, x3_eq, chk_eq, true_and, and_true, List.set_cons_zero, List.set_cons_succ, List.eraseIdx_cons_zero, List.eraseIdx_cons_succ]
    refine ixs_own (k := 2) hs rfl (by omega) fun r hr => ?_
    subst hr
    simp only [nn_some, add_mk, Nat.zero_add, Nat.add_zero, Nat.reduceAdd, Nat.reduceMul, Option.isNone_some, Option.isNone_none, br_true, br_false, Bool.not_true, Bool.not_false, xI_eq, xB_eq, xS_eq, xP_eq, xL_eq, x0_eq, x2_eq, x3_eq, chk_eq, true_and, and_true, List.set_cons_zero, List.set_cons_succ, List.eraseIdx_cons_zero, List.eraseIdx_cons_succ]
    refine ld_own (k := 2) hs rfl (v := .int .i64 p.1) (by rw [Int.toNat_natCast]; exact hp1) ?_
    simp only [nn_some, add_mk, Nat.zero_add, Nat.add_zero, Nat.reduceAdd, Nat.reduceMul, Option.isNone_some, Option.isNone_none, br_true, br_false, Bool.not_true, Bool.not_false, xI_eq, xB_eq, xS_eq, xP_eq, xL_eq, x0_eq, x2_eq, x3_eq, chk_eq, true_and, and_true, List.set_cons_zero, List.set_cons_succ, List.eraseIdx_cons_zero, List.eraseIdx_cons_succ]
    refine br_eq (fun h1 => ?_) (fun h1 => ?_)
    · refine ld_pt (k := 0) hs rfl rfl ?_
      simp only [nn_some, add_mk, Nat.zero_add, Nat.add_zero, Nat.reduceAdd, Nat.reduceMul, Option.isNone_some, Option.isNone_none, br_true, br_false, Bool.not_true, Bool.not_false, xI_eq, xB_eq, xS_eq, xP_eq, xL_eq, x0_eq, x2_eq, x3_eq, chk_eq, true_and, and_true, List.set_cons_zero, List.set_cons_succ, List.eraseIdx_cons_zero, List.eraseIdx_cons_succ]
      refine ixs_own (k := 2) hs rfl (by omega) fun r' hr' => ?_
      cases hr'
      simp only [nn_some, add_mk, Nat.zero_add, Nat.add_zero, Nat.reduceAdd, Nat.reduceMul, Option.isNone_some, Option.isNone_none, br_true, br_false, Bool.not_true, Bool.not_false, xI_eq, xB_eq, xS_eq, xP_eq, xL_eq, x0_eq, x2_eq, x3_eq, chk_eq, true_and, and_true, List.set_cons_zero, List.set_cons_succ, List.eraseIdx_cons_zero, List.eraseIdx_cons_succ]
      refine ld_own (k := 2) hs rfl (v := .string p.2) (by rw [Int.toNat_natCast]; exact hp2) ?_
      simp only [nn_some, add_mk, Nat.zero_add, Nat.add_zero, Nat.reduceAdd, Nat.reduceMul, Option.isNone_some, Option.isNone_none, br_true, br_false, Bool.not_true, Bool.not_false, xI_eq, xB_eq, xS_eq, xP_eq, xL_eq, x0_eq, x2_eq, x3_eq, chk_eq, true_and, and_true, List.set_cons_zero, List.set_cons_succ, List.eraseIdx_cons_zero, List.eraseIdx_cons_succ]
      have : D.now i = p.2 := by
        unfold Disk.now
        have hsplit : D.later = D.later.take m ++ (p :: D.later.drop (m + 1)) := by rw [← drop_cons hp, List.take_append_drop]
        rw [hsplit, last_append, last_cons, hn]
        simp [h1]
      rw [this] at hK; exact hK
    · have e5 : IntKind.i64.wrap ((m : Int) - 1) = (m : Int) - 1 := wrap_id (by omega)
      rw [e5]
      refine ⟨⟨m, rfl, rfl, by omega, ?_⟩, by omega⟩
      rw [drop_cons hp, last_cons, hn]
      simp [h1]
  · have hj0 : j = 0 := by omega
    subst hj0
    have hlast : Disk.last D.later i = none := hn
    refine ld_pt (k := 0) hs rfl rfl ?_
    simp only [nn_some, add_mk, Nat.zero_add, Nat.add_zero, Nat.reduceAdd, Nat.reduceMul, Option.isNone_some, Option.isNone_none, br_true, br_false, Bool.not_true, Bool.not_false, xI_eq, xB_eq, xS_eq, xP_eq, xL_eq, x0_eq, x2_eq, x3_eq, chk_eq, true_and, and_true, List.set_cons_zero, List.set_cons_succ, List.eraseIdx_cons_zero, List.eraseIdx_cons_succ]
    refine ixs_own (k := 1) hs rfl hi fun r hr => ?_
    subst hr
    have hlt : i.toNat < D.safe.length := by have := hi.1; have := hi.2; omega
    refine ld_own (k := 1) hs rfl (v := .string (D.safe[i.toNat])) (by simp [hlt]) ?_
    simp only [nn_some, add_mk, Nat.zero_add, Nat.add_zero, Nat.reduceAdd, Nat.reduceMul, Option.isNone_some, Option.isNone_none, br_true, br_false, Bool.not_true, Bool.not_false, xI_eq, xB_eq, xS_eq, xP_eq, xL_eq, x0_eq, x2_eq, x3_eq, chk_eq, true_and, and_true, List.set_cons_zero, List.set_cons_succ, List.eraseIdx_cons_zero, List.eraseIdx_cons_succ]
    have : D.now i = D.safe[i.toNat] := by
      unfold Disk.now; rw [hlast]; simp [hlt]
    rw [this] at hK; exact hK

/-- A disk that is all sectors so far. -/
theorem New_spec {n : Int} {K : VK} (h : St W w L) (hK : ∀ d w', St W w' (disk d (Disk.new n) :: L) → K (.pointer (some ⟨d, 0, none⟩)) w') : platter_New n K w := by
  unfold platter_New
  simp only [nn_some, add_mk, Nat.zero_add, Nat.add_zero, Nat.reduceAdd, Nat.reduceMul, Option.isNone_some, Option.isNone_none, br_true, br_false, Bool.not_true, Bool.not_false, xI_eq, xB_eq, xS_eq, xP_eq, xL_eq, x0_eq, x2_eq, x3_eq, chk_eq, true_and, and_true, List.set_cons_zero, List.set_cons_succ, List.eraseIdx_cons_zero, List.eraseIdx_cons_succ]
  refine mk_of h fun d w hs => ?_
  have hn : 0 ≤ min2 (max2 n 0) 4096 ∧ min2 (max2 n 0) 4096 ≤ 4096 := by unfold min2 max2; split <;> split <;> omega
  refine ⟨fun us w' => ∃ (j : Nat) (b : Option Addr) (c : Nat), us = [.pointer none, .pointer (some ⟨d, 0, none⟩), .int .i64 (min2 (max2 n 0) 4096), .int .i64 j] ∧ (j : Int) ≤ min2 (max2 n 0) 4096 ∧
      St W w' (pt d [.slice b j c, .slice none 0 0, .int .i64 0, .int .i64 0] :: own b j c 1 ((List.replicate j (zeros 128)).map .string) :: L),
    fun us _ => match us with | [_, _, .int _ m, .int _ j] => (m - j).toNat | _ => 0, ⟨0, none, 0, rfl, hn.1, ?_⟩, ?_⟩
  · refine (hs.push (own_nil 1)).perm (List.Perm.swap _ _ _)
  · rintro p1 a1 n2 n3 w2 ⟨j, b, c, he, hj, hs⟩
    cases he
    refine br_dec (fun h0 => ?_) (fun h0 => ?_)
    · refine tick_of hs fun w hs => ?_
      simp only [nn_some, add_mk, Nat.zero_add, Nat.add_zero, Nat.reduceAdd, Nat.reduceMul, Option.isNone_some, Option.isNone_none, br_true, br_false, Bool.not_true, Bool.not_false, xI_eq, xB_eq, xS_eq, xP_eq, xL_eq, x0_eq, x2_eq, x3_eq, chk_eq, true_and, and_true, List.set_cons_zero, List.set_cons_succ, List.eraseIdx_cons_zero, List.eraseIdx_cons_succ]
      refine ld_pt (k := 0) hs rfl rfl ?_
      simp only [nn_some, add_mk, Nat.zero_add, Nat.add_zero, Nat.reduceAdd, Nat.reduceMul, Option.isNone_some, Option.isNone_none, br_true, br_false, Bool.not_true, Bool.not_false, xI_eq, xB_eq, xS_eq, xP_eq, xL_eq, x0_eq, x2_eq, x3_eq, chk_eq, true_and, and_true, List.set_cons_zero, List.set_cons_succ, List.eraseIdx_cons_zero, List.eraseIdx_cons_succ]
      refine blank_spec hs fun w hs => ?_
      simp only [nn_some, add_mk, Nat.zero_add, Nat.add_zero, Nat.reduceAdd, Nat.reduceMul, Option.isNone_some, Option.isNone_none, br_true, br_false, Bool.not_true, Bool.not_false, xI_eq, xB_eq, xS_eq, xP_eq, xL_eq, x0_eq, x2_eq, x3_eq, chk_eq, true_and, and_true, List.set_cons_zero, List.set_cons_succ, List.eraseIdx_cons_zero, List.eraseIdx_cons_succ]
      refine kp_one (k := 0) hs rfl rfl ?_
      simp only [nn_some, add_mk, Nat.zero_add, Nat.add_zero, Nat.reduceAdd, Nat.reduceMul, Option.isNone_some, Option.isNone_none, br_true, br_false, Bool.not_true, Bool.not_false, xI_eq, xB_eq, xS_eq, xP_eq, xL_eq, x0_eq, x2_eq, x3_eq, chk_eq, true_and, and_true, List.set_cons_zero, List.set_cons_succ, List.eraseIdx_cons_zero, List.eraseIdx_cons_succ]
      refine mk_of hs fun r w hs => ?_
      refine kp_one (k := 1) hs rfl rfl ?_
      refine appSl_own (k := 2) (ys := [.string (zeros 128)]) hs rfl (Src_pt (k' := 0) hs rfl rfl fun j v hj => by rw [Nat.zero_add]; exact hj) (by simp) rfl (by omega) (by omega) (by simp [Value.oneCell']) fun b' c' w hs => ?_
      simp only [nn_some, add_mk, Nat.zero_add, Nat.add_zero, Nat.reduceAdd, Nat.reduceMul, Option.isNone_some, Option.isNone_none, br_true, br_false, Bool.not_true, Bool.not_false, xI_eq, xB_eq, xS_eq, xP_eq, xL_eq, x0_eq, x2_eq, x3_eq, chk_eq, true_and, and_true, List.set_cons_zero, List.set_cons_succ, List.eraseIdx_cons_zero, List.eraseIdx_cons_succ] at hs ⊢
      refine st_pt (k := 1) hs rfl (Nat.le_of_ble_eq_true rfl) rfl fun w hs => ?_
      simp only [nn_some, add_mk, Nat.zero_add, Nat.add_zero, Nat.reduceAdd, Nat.reduceMul, Option.isNone_some, Option.isNone_none, br_true, br_false, Bool.not_true, Bool.not_false, xI_eq, xB_eq, xS_eq, xP_eq, xL_eq, x0_eq, x2_eq, x3_eq, chk_eq, true_and, and_true, List.set_cons_zero, List.set_cons_succ, List.eraseIdx_cons_zero, List.eraseIdx_cons_succ] at hs
      have e5 : IntKind.i64.wrap ((j : Int) + 1) = ((j + 1 : Nat) : Int) := by rw [wrap_id (by omega)]; omega
      rw [e5]
      refine ⟨⟨j + 1, b', c', rfl, by omega, ?_⟩, by omega⟩
      have e6 : (List.replicate j (zeros 128)).map Value.string ++ [.string (zeros 128)] = (List.replicate (j + 1) (zeros 128)).map .string := by
        rw [List.replicate_succ']; simp
      rw [e6] at hs
      exact hs.drop
    · have hj2 : (j : Int) = min2 (max2 n 0) 4096 := by omega
      have hj3 : j = (min2 (max2 n 0) 4096).toNat := by omega
      have hs2 : St W w2 (pt d [.slice b j c, .slice none 0 0, .int .i64 0, .int .i64 0] :: own b j c 1 ((List.replicate j (zeros 128)).map .string) :: own none 0 0 2 (laterCells []) :: L) :=
        (hs.push (A := own none 0 0 2 (laterCells [])) (own_nil 2)).perm ((List.Perm.swap _ _ _).trans (List.Perm.cons _ (List.Perm.swap _ _ _)))
      have := disk_close (L := disk d (Disk.new n) :: L) (k := 0) (A := disk d (Disk.new n)) (safe := List.replicate j (zeros 128)) (later := []) (ops := 0) (arm := 0) rfl (by simp) rfl hs2
      refine hK d w2 ?_
      have e7 : Disk.new n = ⟨List.replicate j (zeros 128), [], 0, 0⟩ := by unfold Disk.new; rw [← hj3]
      rw [e7]; exact this

end
end Go.Sep

/- A disk in memory; its calls: Sync, Crash. -/
namespace Go.Sep
open Go.Den Go.RowKit Go.Prog Go.Plat
set_option linter.unusedSimpArgs false
set_option linter.unusedVariables false

theorem foldl_put_length (l : List (Int × ByteArray)) (safe : List ByteArray) : (l.foldl Disk.put safe).length = safe.length := by
  induction l generalizing safe with
  | nil => rfl
  | cons p l ih => rw [List.foldl_cons, ih]; simp [Disk.put]

theorem take_succ_get {α : Type} {l : List α} {j : Nat} {p : α} (h : l[j]? = some p) : l.take (j + 1) = l.take j ++ [p] := by
  obtain ⟨hj, he⟩ := List.getElem?_eq_some_iff.1 h
  rw [List.take_succ_eq_append_getElem hj, he]

section
variable {W w : World} {L : List HP} {k d : Nat} {D : Disk}

/-- The disk's cells, with the sectors as they are on the way. -/
theorem Disk_Sync_spec {K : VK} (h : St W w L) (hk : L[k]? = some (disk d D)) (hok : D.Ok) (hK : ∀ w', St W w' (L.set k (disk d D.sync.1)) → K (.int .i64 D.sync.2) w') : platter_Disk_Sync (some ⟨d, 0, none⟩) K w := by
  have hl := hok.less
  unfold platter_Disk_Sync
  simp only [nn_some, add_mk, Nat.zero_add, Nat.add_zero, Nat.reduceAdd, Nat.reduceMul, Option.isNone_some, Option.isNone_none, br_true, br_false, Bool.not_true, Bool.not_false, xI_eq, xB_eq, xS_eq, xP_eq, xL_eq, x0_eq, x2_eq, x3_eq, chk_eq, true_and, and_true, List.set_cons_zero, List.set_cons_succ, List.eraseIdx_cons_zero, List.eraseIdx_cons_succ]
  refine Disk_fails_spec h hk fun w h => ?_
  simp only [nn_some, add_mk, Nat.zero_add, Nat.add_zero, Nat.reduceAdd, Nat.reduceMul, Option.isNone_some, Option.isNone_none, br_true, br_false, Bool.not_true, Bool.not_false, xI_eq, xB_eq, xS_eq, xP_eq, xL_eq, x0_eq, x2_eq, x3_eq, chk_eq, true_and, and_true, List.set_cons_zero, List.set_cons_succ, List.eraseIdx_cons_zero, List.eraseIdx_cons_succ]
  refine br_of (fun hf => ?_) (fun hf => ?_)
  · have e : D.sync = (D.tick, 8) := by simp [Disk.sync, hf]
    rw [e] at hK; exact hK w h
  have e : D.sync = ({ D.tick with safe := D.later.foldl Disk.put D.safe, later := [] }, 0) := by simp [Disk.sync, hf]
  rw [e] at hK
  have hk2 : (L.set k (disk d D.tick))[k]? = some (disk d D.tick) := set_get hk
  obtain ⟨sb, sc, lb, lc, hs⟩ := disk_open h hk2
  refine ld_pt (k := 0) hs rfl rfl ?_
  simp only [nn_some, add_mk, Nat.zero_add, Nat.add_zero, Nat.reduceAdd, Nat.reduceMul, Option.isNone_some, Option.isNone_none, br_true, br_false, Bool.not_true, Bool.not_false, xI_eq, xB_eq, xS_eq, xP_eq, xL_eq, x0_eq, x2_eq, x3_eq, chk_eq, true_and, and_true, List.set_cons_zero, List.set_cons_succ, List.eraseIdx_cons_zero, List.eraseIdx_cons_succ]
  refine ⟨fun us w' => ∃ j : Nat, us = [.int .i64 0, .slice lb D.later.length lc, .int .i64 D.later.length, .int .i64 j] ∧ j ≤ D.later.length ∧
      St W w' (pt d (diskCells sb lb D.safe.length sc D.later.length lc D.tick.ops D.tick.arm) :: own sb D.safe.length sc 1 (((D.later.take j).foldl Disk.put D.safe).map .string) :: own lb D.later.length lc 2 (laterCells D.later) :: (L.set k (disk d D.tick)).eraseIdx k),
    fun us _ => match us with | [_, _, _, .int _ j] => D.later.length - j.toNat | _ => 0, ⟨0, rfl, Nat.zero_le _, hs⟩, ?_⟩
  rintro n1 sb2 sn2 sc2 n2 n3 w2 ⟨j, he, hj, hs⟩
  cases he
  refine br_dec (fun h0 => ?_) (fun h0 => ?_)
  · have hlt : j < D.later.length := by omega
    obtain ⟨p, hp⟩ : ∃ p, D.later[j]? = some p := ⟨D.later[j], by simp [hlt]⟩
    obtain ⟨hp1, hp2⟩ := laterCells_get _ _ _ hp
    obtain ⟨hps, hpa, hpb⟩ := hok.later p (List.mem_of_getElem? hp)
    refine ixs_own (k := 2) hs rfl (by omega) fun r hr => ?_
    subst hr
    refine ldN_own (k := 2) (ys := [.int .i64 p.1, .string p.2]) hs rfl rfl (fun i v hi => ?_) ?_
    · rw [Int.toNat_natCast]
      match i, hi with
      | 0, hi => simp at hi; subst hi; exact hp1
      | 1, hi => simp at hi; subst hi; exact hp2
    refine mk_of hs fun r1 w hs => ?_
    simp only [nn_some, add_mk, Nat.zero_add, Nat.add_zero, Nat.reduceAdd, Nat.reduceMul, Option.isNone_some, Option.isNone_none, br_true, br_false, Bool.not_true, Bool.not_false, xI_eq, xB_eq, xS_eq, xP_eq, xL_eq, x0_eq, x2_eq, x3_eq, chk_eq, true_and, and_true, List.set_cons_zero, List.set_cons_succ, List.eraseIdx_cons_zero, List.eraseIdx_cons_succ]
    refine ⟨rfl, stN_pt (k := 0) hs rfl (Nat.le_of_ble_eq_true rfl) (by simp [Value.oneCell']) fun w hs => ?_⟩
    simp only [nn_some, add_mk, Nat.zero_add, Nat.add_zero, Nat.reduceAdd, Nat.reduceMul, Option.isNone_some, Option.isNone_none, br_true, br_false, Bool.not_true, Bool.not_false, xI_eq, xB_eq, xS_eq, xP_eq, xL_eq, x0_eq, x2_eq, x3_eq, chk_eq, true_and, and_true, List.set_cons_zero, List.set_cons_succ, List.eraseIdx_cons_zero, List.eraseIdx_cons_succ] at hs
    refine tick_of hs fun w hs => ?_
    refine ld_pt (k := 1) hs rfl rfl ?_
    simp only [nn_some, add_mk, Nat.zero_add, Nat.add_zero, Nat.reduceAdd, Nat.reduceMul, Option.isNone_some, Option.isNone_none, br_true, br_false, Bool.not_true, Bool.not_false, xI_eq, xB_eq, xS_eq, xP_eq, xL_eq, x0_eq, x2_eq, x3_eq, chk_eq, true_and, and_true, List.set_cons_zero, List.set_cons_succ, List.eraseIdx_cons_zero, List.eraseIdx_cons_succ]
    refine ld_pt (k := 0) hs rfl rfl ?_
    simp only [nn_some, add_mk, Nat.zero_add, Nat.add_zero, Nat.reduceAdd, Nat.reduceMul, Option.isNone_some, Option.isNone_none, br_true, br_false, Bool.not_true, Bool.not_false, xI_eq, xB_eq, xS_eq, xP_eq, xL_eq, x0_eq, x2_eq, x3_eq, chk_eq, true_and, and_true, List.set_cons_zero, List.set_cons_succ, List.eraseIdx_cons_zero, List.eraseIdx_cons_succ]
    refine ld_pt (k := 0) hs rfl rfl ?_
    simp only [nn_some, add_mk, Nat.zero_add, Nat.add_zero, Nat.reduceAdd, Nat.reduceMul, Option.isNone_some, Option.isNone_none, br_true, br_false, Bool.not_true, Bool.not_false, xI_eq, xB_eq, xS_eq, xP_eq, xL_eq, x0_eq, x2_eq, x3_eq, chk_eq, true_and, and_true, List.set_cons_zero, List.set_cons_succ, List.eraseIdx_cons_zero, List.eraseIdx_cons_succ]
    refine ixs_own (k := 2) hs rfl ⟨hpa, hpb⟩ fun r hr => ?_
    subst hr
    refine st_own (k := 2) hs rfl (by rw [List.length_map, foldl_put_length]; omega) rfl fun w hs => ?_
    simp only [nn_some, add_mk, Nat.zero_add, Nat.add_zero, Nat.reduceAdd, Nat.reduceMul, Option.isNone_some, Option.isNone_none, br_true, br_false, Bool.not_true, Bool.not_false, xI_eq, xB_eq, xS_eq, xP_eq, xL_eq, x0_eq, x2_eq, x3_eq, chk_eq, true_and, and_true, List.set_cons_zero, List.set_cons_succ, List.eraseIdx_cons_zero, List.eraseIdx_cons_succ] at hs
    have e5 : IntKind.i64.wrap ((j : Int) + 1) = ((j + 1 : Nat) : Int) := by rw [wrap_id (by omega)]; omega
    rw [e5]
    refine ⟨⟨j + 1, rfl, by omega, ?_⟩, by omega⟩
    have e6 : (((D.later.take j).foldl Disk.put D.safe).map Value.string).set (p.1.toNat * 1) (.string p.2) = ((D.later.take (j + 1)).foldl Disk.put D.safe).map .string := by
      rw [take_succ_get hp, List.foldl_append, Nat.mul_one]; simp [Disk.put, List.map_set]
    rw [e6] at hs
    exact hs.drop
  · have hj2 : j = D.later.length := by omega
    subst hj2
    refine st_pt (k := 0) hs rfl (Nat.le_of_ble_eq_true rfl) rfl fun w hs => ?_
    simp only [nn_some, add_mk, Nat.zero_add, Nat.add_zero, Nat.reduceAdd, Nat.reduceMul, Option.isNone_some, Option.isNone_none, br_true, br_false, Bool.not_true, Bool.not_false, xI_eq, xB_eq, xS_eq, xP_eq, xL_eq, x0_eq, x2_eq, x3_eq, chk_eq, true_and, and_true, List.set_cons_zero, List.set_cons_succ, List.eraseIdx_cons_zero, List.eraseIdx_cons_succ] at hs
    refine hK w ?_
    rw [List.take_length] at hs
    have hs3 := (hs.perm ((List.Perm.cons _ (List.Perm.swap _ _ _)).trans (List.Perm.swap _ _ _))).drop.push (own_nil 2)
    have hs4 := hs3.perm ((List.Perm.swap _ _ _).trans (List.Perm.cons _ (List.Perm.swap _ _ _)))
    have h5 := disk_close (sb := sb) (sc := sc) (lb := none) (lc := 0) (safe := D.later.foldl Disk.put D.safe) (later := []) (ops := D.tick.ops) (arm := D.tick.arm) hk2 (foldl_put_length _ _).symm rfl hs4
    rw [List.set_set] at h5
    exact h5

theorem crashAt_length (mask torn c : Int) (safe : List ByteArray) (k : Nat) (p : Int × ByteArray) : (Disk.crashAt mask torn c safe k p).length = safe.length := by
  unfold Disk.crashAt; split
  · simp
  · split <;> simp

/-- The sectors behind the first 'j' writes. -/
def crashed (mask torn c : Int) (safe : List ByteArray) (later : List (Int × ByteArray)) : Nat → List ByteArray
  | 0 => safe
  | j + 1 => match later[j]? with
    | some p => Disk.crashAt mask torn c (crashed mask torn c safe later j) j p
    | none => crashed mask torn c safe later j

theorem crashed_length (mask torn c : Int) (safe : List ByteArray) (later : List (Int × ByteArray)) : ∀ j, (crashed mask torn c safe later j).length = safe.length
  | 0 => rfl
  | j + 1 => by
    simp only [crashed]
    cases later[j]? with
    | none => exact crashed_length mask torn c safe later j
    | some p => simp only []; rw [crashAt_length]; exact crashed_length mask torn c safe later j

theorem crashFrom_eq (mask torn c : Int) (later : List (Int × ByteArray)) (safe : List ByteArray) : ∀ (n j : Nat), j + n = later.length →
    Disk.crashFrom mask torn c j (later.drop j) (crashed mask torn c safe later j) = crashed mask torn c safe later later.length
  | 0, j, h => by
    have : j = later.length := by omega
    subst this; simp [Disk.crashFrom]
  | n + 1, j, h => by
    have hlt : j < later.length := by omega
    rw [List.drop_eq_getElem_cons hlt]
    simp only [Disk.crashFrom]
    have := crashFrom_eq mask torn c later safe n (j + 1) (by omega)
    simp only [crashed, List.getElem?_eq_getElem hlt] at this
    exact this

/-- Bytes of a sector that are laid anew up to 'c'. -/
theorem Disk_Crash_spec {mask torn cut : Int} {K : VK} (h : St W w L) (hk : L[k]? = some (disk d D)) (hok : D.Ok) (hK : ∀ w', St W w' (L.set k (disk d (D.crash mask torn cut))) → K (.tuple ⟨[]⟩) w') :
    platter_Disk_Crash (some ⟨d, 0, none⟩) mask torn cut K w := by
  have hl := hok.less
  have hc : 0 ≤ min2 (max2 cut 0) 128 ∧ min2 (max2 cut 0) 128 ≤ 128 := by unfold min2 max2; split <;> split <;> omega
  have hcr : D.crash mask torn cut = ⟨crashed mask torn (min2 (max2 cut 0) 128) D.safe D.later D.later.length, [], D.ops, 0⟩ := by
    unfold Disk.crash
    have := crashFrom_eq mask torn (min2 (max2 cut 0) 128) D.later D.safe D.later.length 0 (by omega)
    simp only [List.drop_zero, crashed] at this
    rw [this]
  rw [hcr] at hK
  obtain ⟨sb, sc, lb, lc, hs⟩ := disk_open h hk
  unfold platter_Disk_Crash
  generalize min2 (max2 cut 0) 128 = c at *
  simp only [nn_some, add_mk, Nat.zero_add, Nat.add_zero, Nat.reduceAdd, Nat.reduceMul, Option.isNone_some, Option.isNone_none, br_true, br_false, Bool.not_true, Bool.not_false, xI_eq, xB_eq, xS_eq, xP_eq, xL_eq, x0_eq, x2_eq, x3_eq, chk_eq, true_and, and_true, List.set_cons_zero, List.set_cons_succ, List.eraseIdx_cons_zero, List.eraseIdx_cons_succ]
  refine ld_pt (k := 0) hs rfl rfl ?_
  simp only [nn_some, add_mk, Nat.zero_add, Nat.add_zero, Nat.reduceAdd, Nat.reduceMul, Option.isNone_some, Option.isNone_none, br_true, br_false, Bool.not_true, Bool.not_false, xI_eq, xB_eq, xS_eq, xP_eq, xL_eq, x0_eq, x2_eq, x3_eq, chk_eq, true_and, and_true, List.set_cons_zero, List.set_cons_succ, List.eraseIdx_cons_zero, List.eraseIdx_cons_succ]
  refine ⟨fun us w' => ∃ j : Nat, us = [.int .i64 c, .slice lb D.later.length lc, .int .i64 D.later.length, .int .i64 j] ∧ j ≤ D.later.length ∧
      St W w' (pt d (diskCells sb lb D.safe.length sc D.later.length lc D.ops D.arm) :: own sb D.safe.length sc 1 ((crashed mask torn c D.safe D.later j).map .string) :: own lb D.later.length lc 2 (laterCells D.later) :: L.eraseIdx k) ∧
      (∀ s ∈ crashed mask torn c D.safe D.later j, s.size = 128),
    fun us _ => match us with | [_, _, _, .int _ j] => D.later.length - j.toNat | _ => 0, ⟨0, rfl, Nat.zero_le _, hs, hok.safe⟩, ?_⟩
  rintro n4 sb2 sn2 sc2 n5 n6 w2 ⟨j, he, hj, hs, h128⟩
  cases he
  refine br_dec (fun h0 => ?_) (fun h0 => ?_)
  · have hlt : j < D.later.length := by omega
    obtain ⟨p, hp⟩ : ∃ p, D.later[j]? = some p := ⟨D.later[j], by simp [hlt]⟩
    obtain ⟨hp1, hp2⟩ := laterCells_get _ _ _ hp
    obtain ⟨hps, hpa, hpb⟩ := hok.later p (List.mem_of_getElem? hp)
    have hplt : p.1.toNat < (crashed mask torn c D.safe D.later j).length := by rw [crashed_length]; omega
    have e5 : IntKind.i64.wrap ((j : Int) + 1) = ((j + 1 : Nat) : Int) := by rw [wrap_id (by omega)]; omega
    have hstep : crashed mask torn c D.safe D.later (j + 1) = Disk.crashAt mask torn c (crashed mask torn c D.safe D.later j) j p := by
      simp only [crashed, hp]
    have h128' : ∀ s ∈ crashed mask torn c D.safe D.later (j + 1), s.size = 128 := by
      rw [hstep]
      intro s hs
      unfold Disk.crashAt at hs
      split at hs
      · rcases List.mem_or_eq_of_mem_set hs with hs | hs
        · exact h128 s hs
        · rw [hs]
          have := h128 _ (List.getElem_mem hplt)
          rw [List.getD_eq_getElem?_getD, List.getElem?_eq_getElem hplt, Option.getD_some, ByteArray.size_append, strEx, strEx, this, hps]
          omega
      · split at hs
        · rcases List.mem_or_eq_of_mem_set hs with hs | hs
          · exact h128 s hs
          · rw [hs]; exact hps
        · exact h128 s hs
    refine ixs_own (k := 2) hs rfl (by omega) fun r hr => ?_
    subst hr
    refine ldN_own (k := 2) (ys := [.int .i64 p.1, .string p.2]) hs rfl rfl (fun i v hi => ?_) ?_
    · rw [Int.toNat_natCast]
      match i, hi with
      | 0, hi => simp at hi; subst hi; exact hp1
      | 1, hi => simp at hi; subst hi; exact hp2
    refine mk_of hs fun r1 w hs => ?_
    simp only [nn_some, add_mk, Nat.zero_add, Nat.add_zero, Nat.reduceAdd, Nat.reduceMul, Option.isNone_some, Option.isNone_none, br_true, br_false, Bool.not_true, Bool.not_false, xI_eq, xB_eq, xS_eq, xP_eq, xL_eq, x0_eq, x2_eq, x3_eq, chk_eq, true_and, and_true, List.set_cons_zero, List.set_cons_succ, List.eraseIdx_cons_zero, List.eraseIdx_cons_succ]
    refine ⟨rfl, stN_pt (k := 0) hs rfl (Nat.le_of_ble_eq_true rfl) (by simp [Value.oneCell']) fun w hs => ?_⟩
    simp only [nn_some, add_mk, Nat.zero_add, Nat.add_zero, Nat.reduceAdd, Nat.reduceMul, Option.isNone_some, Option.isNone_none, br_true, br_false, Bool.not_true, Bool.not_false, xI_eq, xB_eq, xS_eq, xP_eq, xL_eq, x0_eq, x2_eq, x3_eq, chk_eq, true_and, and_true, List.set_cons_zero, List.set_cons_succ, List.eraseIdx_cons_zero, List.eraseIdx_cons_succ] at hs
    rw [e5]
    have fin : ∀ w', St W w' (pt r1 (over [.int .i64 0, .string .empty] 0 [.int .i64 p.1, .string p.2]) :: pt d (diskCells sb (some ⟨r, 0, none⟩) D.safe.length sc D.later.length lc D.ops D.arm) :: own sb D.safe.length sc 1 ((crashed mask torn c D.safe D.later (j + 1)).map .string) :: own (some ⟨r, 0, none⟩) D.later.length lc 2 (laterCells D.later) :: L.eraseIdx k) →
        (∃ j' : Nat, [Value.int .i64 c, .slice (some ⟨r, 0, none⟩) D.later.length lc, .int .i64 D.later.length, .int .i64 ((j + 1 : Nat) : Int)] = [.int .i64 c, .slice (some ⟨r, 0, none⟩) D.later.length lc, .int .i64 D.later.length, .int .i64 j'] ∧ j' ≤ D.later.length ∧
      St W w' (pt d (diskCells sb (some ⟨r, 0, none⟩) D.safe.length sc D.later.length lc D.ops D.arm) :: own sb D.safe.length sc 1 ((crashed mask torn c D.safe D.later j').map .string) :: own (some ⟨r, 0, none⟩) D.later.length lc 2 (laterCells D.later) :: L.eraseIdx k) ∧
      (∀ s ∈ crashed mask torn c D.safe D.later j', s.size = 128)) := fun w' hs => ⟨j + 1, rfl, by omega, hs.drop, h128'⟩
    refine br_eq (fun ht => ?_) (fun ht => ?_)
    · refine tick_of hs fun w hs => ?_
      refine ld_pt (k := 1) hs rfl rfl ?_
      simp only [nn_some, add_mk, Nat.zero_add, Nat.add_zero, Nat.reduceAdd, Nat.reduceMul, Option.isNone_some, Option.isNone_none, br_true, br_false, Bool.not_true, Bool.not_false, xI_eq, xB_eq, xS_eq, xP_eq, xL_eq, x0_eq, x2_eq, x3_eq, chk_eq, true_and, and_true, List.set_cons_zero, List.set_cons_succ, List.eraseIdx_cons_zero, List.eraseIdx_cons_succ]
      refine ld_pt (k := 0) hs rfl rfl ?_
      simp only [nn_some, add_mk, Nat.zero_add, Nat.add_zero, Nat.reduceAdd, Nat.reduceMul, Option.isNone_some, Option.isNone_none, br_true, br_false, Bool.not_true, Bool.not_false, xI_eq, xB_eq, xS_eq, xP_eq, xL_eq, x0_eq, x2_eq, x3_eq, chk_eq, true_and, and_true, List.set_cons_zero, List.set_cons_succ, List.eraseIdx_cons_zero, List.eraseIdx_cons_succ]
      refine ld_pt (k := 0) hs rfl rfl ?_
      simp only [nn_some, add_mk, Nat.zero_add, Nat.add_zero, Nat.reduceAdd, Nat.reduceMul, Option.isNone_some, Option.isNone_none, br_true, br_false, Bool.not_true, Bool.not_false, xI_eq, xB_eq, xS_eq, xP_eq, xL_eq, x0_eq, x2_eq, x3_eq, chk_eq, true_and, and_true, List.set_cons_zero, List.set_cons_succ, List.eraseIdx_cons_zero, List.eraseIdx_cons_succ]
      unfold slStr
      simp only [nn_some, add_mk, Nat.zero_add, Nat.add_zero, Nat.reduceAdd, Nat.reduceMul, Option.isNone_some, Option.isNone_none, br_true, br_false, Bool.not_true, Bool.not_false, xI_eq, xB_eq, xS_eq, xP_eq, xL_eq, x0_eq, x2_eq, x3_eq, chk_eq, true_and, and_true, List.set_cons_zero, List.set_cons_succ, List.eraseIdx_cons_zero, List.eraseIdx_cons_succ]
      refine ⟨⟨hc.1, by omega⟩, ?_⟩
      refine ld_pt (k := 1) hs rfl rfl ?_
      simp only [nn_some, add_mk, Nat.zero_add, Nat.add_zero, Nat.reduceAdd, Nat.reduceMul, Option.isNone_some, Option.isNone_none, br_true, br_false, Bool.not_true, Bool.not_false, xI_eq, xB_eq, xS_eq, xP_eq, xL_eq, x0_eq, x2_eq, x3_eq, chk_eq, true_and, and_true, List.set_cons_zero, List.set_cons_succ, List.eraseIdx_cons_zero, List.eraseIdx_cons_succ]
      refine ld_pt (k := 0) hs rfl rfl ?_
      simp only [nn_some, add_mk, Nat.zero_add, Nat.add_zero, Nat.reduceAdd, Nat.reduceMul, Option.isNone_some, Option.isNone_none, br_true, br_false, Bool.not_true, Bool.not_false, xI_eq, xB_eq, xS_eq, xP_eq, xL_eq, x0_eq, x2_eq, x3_eq, chk_eq, true_and, and_true, List.set_cons_zero, List.set_cons_succ, List.eraseIdx_cons_zero, List.eraseIdx_cons_succ]
      refine ixs_own (k := 2) hs rfl ⟨hpa, hpb⟩ fun r' hr' => ?_
      subst hr'
      refine ld_own (k := 2) hs rfl (v := .string ((crashed mask torn c D.safe D.later j)[p.1.toNat])) (by rw [Nat.mul_one, List.getElem?_map, List.getElem?_eq_getElem hplt]; rfl) ?_
      simp only [nn_some, add_mk, Nat.zero_add, Nat.add_zero, Nat.reduceAdd, Nat.reduceMul, Option.isNone_some, Option.isNone_none, br_true, br_false, Bool.not_true, Bool.not_false, xI_eq, xB_eq, xS_eq, xP_eq, xL_eq, x0_eq, x2_eq, x3_eq, chk_eq, true_and, and_true, List.set_cons_zero, List.set_cons_succ, List.eraseIdx_cons_zero, List.eraseIdx_cons_succ]
      have h1 := h128 _ (List.getElem_mem hplt)
      refine ⟨⟨hc.1, by rw [h1]; exact hc.2⟩, ⟨by rw [strEx, strEx]; omega, ?_⟩⟩
      refine ixs_own (k := 2) hs rfl ⟨hpa, hpb⟩ fun r'' hr'' => ?_
      cases hr''
      refine st_own (k := 2) hs rfl (by rw [List.length_map, Nat.mul_one]; exact hplt) rfl fun w hs => ?_
      simp only [nn_some, add_mk, Nat.zero_add, Nat.add_zero, Nat.reduceAdd, Nat.reduceMul, Option.isNone_some, Option.isNone_none, br_true, br_false, Bool.not_true, Bool.not_false, xI_eq, xB_eq, xS_eq, xP_eq, xL_eq, x0_eq, x2_eq, x3_eq, chk_eq, true_and, and_true, List.set_cons_zero, List.set_cons_succ, List.eraseIdx_cons_zero, List.eraseIdx_cons_succ] at hs
      refine ⟨fin w ?_, by omega⟩
      rw [hstep]
      have e6 : (Disk.crashAt mask torn c (crashed mask torn c D.safe D.later j) j p).map Value.string = ((crashed mask torn c D.safe D.later j).map Value.string).set (p.1.toNat * 1) (.string (p.2.extract 0 c.toNat ++ ((crashed mask torn c D.safe D.later j)[p.1.toNat]).extract c.toNat ((crashed mask torn c D.safe D.later j)[p.1.toNat]).size)) := by
        unfold Disk.crashAt
        rw [if_pos ht, List.map_set, Nat.mul_one, List.getD_eq_getElem?_getD, List.getElem?_eq_getElem hplt]; rfl
      rw [e6]; exact hs
    · refine ⟨by unfold min2; split <;> omega, ?_⟩
      refine br_of (fun hb => ?_) (fun hb => ?_)
      · refine tick_of hs fun w hs => ?_
        refine ld_pt (k := 1) hs rfl rfl ?_
        simp only [nn_some, add_mk, Nat.zero_add, Nat.add_zero, Nat.reduceAdd, Nat.reduceMul, Option.isNone_some, Option.isNone_none, br_true, br_false, Bool.not_true, Bool.not_false, xI_eq, xB_eq, xS_eq, xP_eq, xL_eq, x0_eq, x2_eq, x3_eq, chk_eq, true_and, and_true, List.set_cons_zero, List.set_cons_succ, List.eraseIdx_cons_zero, List.eraseIdx_cons_succ]
        refine ld_pt (k := 0) hs rfl rfl ?_
        simp only [nn_some, add_mk, Nat.zero_add, Nat.add_zero, Nat.reduceAdd, Nat.reduceMul, Option.isNone_some, Option.isNone_none, br_true, br_false, Bool.not_true, Bool.not_false, xI_eq, xB_eq, xS_eq, xP_eq, xL_eq, x0_eq, x2_eq, x3_eq, chk_eq, true_and, and_true, List.set_cons_zero, List.set_cons_succ, List.eraseIdx_cons_zero, List.eraseIdx_cons_succ]
        refine ld_pt (k := 0) hs rfl rfl ?_
        simp only [nn_some, add_mk, Nat.zero_add, Nat.add_zero, Nat.reduceAdd, Nat.reduceMul, Option.isNone_some, Option.isNone_none, br_true, br_false, Bool.not_true, Bool.not_false, xI_eq, xB_eq, xS_eq, xP_eq, xL_eq, x0_eq, x2_eq, x3_eq, chk_eq, true_and, and_true, List.set_cons_zero, List.set_cons_succ, List.eraseIdx_cons_zero, List.eraseIdx_cons_succ]
        refine ixs_own (k := 2) hs rfl ⟨hpa, hpb⟩ fun r' hr' => ?_
        subst hr'
        refine st_own (k := 2) hs rfl (by rw [List.length_map, Nat.mul_one]; exact hplt) rfl fun w hs => ?_
        simp only [nn_some, add_mk, Nat.zero_add, Nat.add_zero, Nat.reduceAdd, Nat.reduceMul, Option.isNone_some, Option.isNone_none, br_true, br_false, Bool.not_true, Bool.not_false, xI_eq, xB_eq, xS_eq, xP_eq, xL_eq, x0_eq, x2_eq, x3_eq, chk_eq, true_and, and_true, List.set_cons_zero, List.set_cons_succ, List.eraseIdx_cons_zero, List.eraseIdx_cons_succ] at hs
        refine ⟨fin w ?_, by omega⟩
        rw [hstep]
        have e6 : (Disk.crashAt mask torn c (crashed mask torn c D.safe D.later j) j p).map Value.string = ((crashed mask torn c D.safe D.later j).map Value.string).set (p.1.toNat * 1) (.string p.2) := by
          unfold Disk.crashAt
          have hb' : Disk.bit mask j = true := hb
          rw [if_neg ht, if_pos hb', List.map_set, Nat.mul_one]
        rw [e6]; exact hs
      · refine ⟨fin w ?_, by omega⟩
        rw [hstep]
        have e6 : Disk.crashAt mask torn c (crashed mask torn c D.safe D.later j) j p = crashed mask torn c D.safe D.later j := by
          unfold Disk.crashAt
          rw [if_neg ht, if_neg (by rw [Disk.bit, hb]; exact Bool.false_ne_true)]
        rw [e6]; exact hs
  · have hj2 : j = D.later.length := by omega
    subst hj2
    refine st_pt (k := 0) hs rfl (Nat.le_of_ble_eq_true rfl) rfl fun w hs => ?_
    simp only [nn_some, add_mk, Nat.zero_add, Nat.add_zero, Nat.reduceAdd, Nat.reduceMul, Option.isNone_some, Option.isNone_none, br_true, br_false, Bool.not_true, Bool.not_false, xI_eq, xB_eq, xS_eq, xP_eq, xL_eq, x0_eq, x2_eq, x3_eq, chk_eq, true_and, and_true, List.set_cons_zero, List.set_cons_succ, List.eraseIdx_cons_zero, List.eraseIdx_cons_succ] at hs
    refine st_pt (k := 0) hs rfl (Nat.le_of_ble_eq_true rfl) rfl fun w hs => ?_
    simp only [nn_some, add_mk, Nat.zero_add, Nat.add_zero, Nat.reduceAdd, Nat.reduceMul, Option.isNone_some, Option.isNone_none, br_true, br_false, Bool.not_true, Bool.not_false, xI_eq, xB_eq, xS_eq, xP_eq, xL_eq, x0_eq, x2_eq, x3_eq, chk_eq, true_and, and_true, List.set_cons_zero, List.set_cons_succ, List.eraseIdx_cons_zero, List.eraseIdx_cons_succ] at hs
    refine hK w ?_
    have hs3 := (hs.perm ((List.Perm.cons _ (List.Perm.swap _ _ _)).trans (List.Perm.swap _ _ _))).drop.push (own_nil 2)
    have hs4 := hs3.perm ((List.Perm.swap _ _ _).trans (List.Perm.cons _ (List.Perm.swap _ _ _)))
    exact disk_close (sb := sb) (sc := sc) (lb := none) (lc := 0) (safe := crashed mask torn c D.safe D.later D.later.length) (later := []) (ops := D.ops) (arm := 0) hk (crashed_length _ _ _ _ _ _).symm rfl hs4

end
end Go.Sep

/- Slices that came in: read alone. -/
namespace Go.Sep
open Go.Den Go.RowKit Go.Prog Go.Plat
set_option linter.unusedSimpArgs false
set_option linter.unusedVariables false

/-- The slice (b, n, _), of elements of 'e' cells, holds 'xs' in the baseline world. -/
def Ro (W : World) (b : Option Addr) (n e : Nat) (xs : List Value) : Prop :=
  xs.length = n * e ∧ (b = none → n = 0) ∧ ∀ a, b = some a → ∀ j v, xs[j]? = some v → W.cell? (a.add j) = some v

theorem add_block (a : Addr) (n : Nat) : (a.add n).block = a.block := by unfold Addr.add; split <;> rfl
theorem add_add (a : Addr) (m n : Nat) : (a.add m).add n = a.add (m + n) := by
  unfold Addr.add
  by_cases h1 : m = 0
  · subst h1; simp
  · by_cases h2 : n = 0
    · subst h2; simp [h1]
    · rw [if_neg h1, if_neg h2, if_neg (by omega)]; simp; omega

section
variable {W w : World} {L : List HP} {b : Option Addr} {n e : Nat} {xs : List Value}

theorem cell_lt {W : World} {a : Addr} {v : Value} (h : W.cell? a = some v) : a.block < W.heap.size := by
  unfold World.cell? at h
  cases hb : W.heap[a.block]? with
  | none => simp [hb] at h
  | some x => exact (Array.getElem?_eq_some_iff.1 hb).1

theorem St.old (h : St W w L) {a : Addr} (ha : a.block < W.heap.size) : w.cell? a = W.cell? a := h.1.cell ha

theorem ixs_ro {i : Int} {K : Addr → WK} (hr : Ro W b n e xs) (hi : 0 ≤ i ∧ i < n) (hK : ∀ a, b = some a → K (a.add (i.toNat * e)) w) : ixs b n i e K w := by
  cases b with
  | none => have := hr.2.1 rfl; omega
  | some a => exact ⟨a, rfl, hi, hK a rfl⟩

theorem Ro.cell (hr : Ro W b n e xs) {a : Addr} (hb : b = some a) (h : St W w L) {j : Nat} {v : Value} (hv : xs[j]? = some v) : w.cell? (a.add j) = some v := by
  have h2 := hr.2.2 a hb j v hv
  rw [h.old (cell_lt h2)]; exact h2

theorem ld_ro {a : Addr} {j : Nat} {v : Value} {K : VK} (h : St W w L) (hr : Ro W b n e xs) (hb : b = some a) (hv : xs[j]? = some v) (hK : K v w) : ld (a.add j) K w := ⟨v, hr.cell hb h hv, hK⟩

theorem Holds_ro {a : Addr} {o : Nat} {ys : List Value} (h : St W w L) (hr : Ro W b n e xs) (hb : b = some a) (hx : ∀ j v, ys[j]? = some v → xs[o + j]? = some v) : Holds w (a.add o) ys := fun j v hj => by
  rw [add_add]; exact hr.cell hb h (hx j v hj)

theorem ldN_ro {a : Addr} {o m : Nat} {ys : List Value} {K : List Value → WK} (h : St W w L) (hr : Ro W b n e xs) (hb : b = some a) (hl : ys.length = m) (hx : ∀ j v, ys[j]? = some v → xs[o + j]? = some v) (hK : K ys w) : ldN (a.add o) m K w :=
  ⟨ys, hl, Holds_ro h hr hb hx, hK⟩
end

theorem kp_own1 {W w : World} {L : List HP} {k n c e : Nat} {xs : List Value} {r o : Nat} {v : Value} {K : WK} (h : St W w L) (hk : L[k]? = some (own (some ⟨r, 0, none⟩) n c e xs)) (hv : xs[o]? = some v) (hK : K w) : kp ⟨r, o, none⟩ [v] K w :=
  ⟨Holds_own h hk fun j u hj => (by
    cases j with
    | zero => simp at hj; subst hj; exact hv
    | succ j => simp at hj), hK⟩

theorem strEq_iff (x y : ByteArray) : strEq x y = decide (x = y) := by
  unfold strEq
  by_cases h : x = y
  · subst h; simp
  · have : x.toList ≠ y.toList := by
      rw [ByteArray.toList_eq, ByteArray.toList_eq]
      intro he
      exact h (ByteArray.ext (Array.ext' he))
    simp [h, this]

end Go.Sep
