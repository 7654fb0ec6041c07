/- SlA: Sl0, SlOver, SlPuts, merged: part of the proof: see the last text. -/
import Derived.Test.YtidhimamegfdaaaDoorStB
/- Layer 7: slots. -/
namespace Go.Sep
open Go.Den Go.RowKit Go.Prog Go.Plat
set_option linter.unusedSimpArgs false
set_option linter.unusedVariables false

/-- The lowest bit of a number. -/
def low (w : Int) : Int := isum .i64 .and w 1

theorem low_nat (w : Int) : low w = (((BitVec.ofInt 64 w).toNat % 2 : Nat) : Int) := by
  have e2 : (BitVec.ofInt 64 1).toNat = 1 := rfl
  show IntKind.i64.wrap (((BitVec.ofInt 64 w &&& BitVec.ofInt 64 1).toNat : Nat) : Int) = _
  rw [BitVec.toNat_and, e2, Nat.and_one_is_mod, wrap_id (by omega)]

theorem low_in (w : Int) : low w = 0 ∨ low w = 1 := by rw [low_nat]; omega

theorem low_flip (w : Int) : low (isum .i64 .xor w 1) = 1 - low w := by
  rw [low_nat, low_nat]
  have e1 : (BitVec.ofInt 64 (isum .i64 .xor w 1)).toNat = (BitVec.ofInt 64 w).toNat ^^^ 1 := by
    have e2 : (BitVec.ofInt 64 1).toNat = 1 := rfl
    show (BitVec.ofInt 64 (IntKind.i64.wrap (((BitVec.ofInt 64 w ^^^ BitVec.ofInt 64 1).toNat : Nat) : Int))).toNat = _
    rw [ofInt_wrap64, BitVec.ofInt_natCast, BitVec.ofNat_toNat, BitVec.setWidth_eq, BitVec.toNat_xor, e2]
  rw [e1]
  have := Nat.xor_mod_two_pow (a := (BitVec.ofInt 64 w).toNat) (b := 1) (n := 1)
  rw [Nat.pow_one] at this
  rw [this]
  rcases Nat.mod_two_eq_zero_or_one (BitVec.ofInt 64 w).toNat with h | h
  · rw [h]; rfl
  · rw [h]; rfl

def pSize (n : Nat) : Nat := (n - 2) * 2 / 5
def planCells (n : Nat) : List Value := [.int .i64 2, .int .i64 (2 + pSize n : Nat), .int .i64 (pSize n : Nat), .int .i64 (2 + 2 * pSize n : Nat), .int .i64 n]
def slotAt (n : Nat) (which : Int) : Nat := if low which = 0 then 2 else 2 + pSize n

theorem slotAt_in {n : Nat} (h : 12 ≤ n) (w : Int) : 2 ≤ slotAt n w ∧ slotAt n w + pSize n ≤ n ∧ 4 ≤ pSize n := by
  unfold slotAt pSize; split <;> omega
theorem slot_apart {n : Nat} (w v : Int) (h : low w ≠ low v) : slotAt n w + pSize n ≤ slotAt n v ∨ slotAt n v + pSize n ≤ slotAt n w := by
  unfold slotAt
  rcases low_in w with a | a <;> rcases low_in v with b | b <;> rw [a, b] at h ⊢ <;> simp at h ⊢

def put (D : Disk) (n : Nat) (which number : Int) (s : ByteArray) : Disk × Int :=
  if (lay D (slotAt n which) ((slotAt n which + pSize n : Nat) : Int) number s).2 ≠ 0 then lay D (slotAt n which) ((slotAt n which + pSize n : Nat) : Int) number s
  else (lay D (slotAt n which) ((slotAt n which + pSize n : Nat) : Int) number s).1.sync
def get (D : Disk) (n : Nat) (which number size : Int) : Option (List UInt8) := take D (slotAt n which) ((slotAt n which + pSize n : Nat) : Int) number size

section
variable {W w : World} {L : List HP} {k d : Nat} {D : Disk}

theorem Of_spec {n : Nat} {K : VK} (h : St W w L) (h12 : 12 ≤ n) (h4096 : n ≤ 4096) (hK : ∀ w', St W w' L → K (.tuple ⟨[.agg ⟨planCells n⟩, .int .i64 0]⟩) w') : slot_Of n K w := by
  unfold slot_Of
  refine mk_of h fun r w hs => ?_
  have e1 : decide ((n : Int) < 12) = false := decide_eq_false (by omega)
  have e2 : decide ((n : Int) > 4096) = false := decide_eq_false (by omega)
  rw [e1, e2]
  unfold slot_Of.j1
  have a1 : IntKind.i64.wrap ((n : Int) - 2) = ((n - 2 : Nat) : Int) := by rw [wrap_id (by omega)]; omega
  have a2 : IntKind.i64.wrap (((n - 2 : Nat) : Int) * 2) = (((n - 2) * 2 : Nat) : Int) := by rw [wrap_id (by omega)]; omega
  have a3 : (((n - 2) * 2 : Nat) : Int).tdiv 5 = ((pSize n : Nat) : Int) := by rw [Int.tdiv_eq_ediv_of_nonneg (by omega)]; rfl
  have hp : pSize n ≤ 4096 := by unfold pSize; omega
  have a4 : IntKind.i64.wrap ((pSize n : Nat) : Int) = ((pSize n : Nat) : Int) := wrap_id (by omega)
  have a5 : IntKind.i64.wrap (2 + ((pSize n : Nat) : Int)) = ((2 + pSize n : Nat) : Int) := by rw [wrap_id (by omega)]; omega
  have a6 : IntKind.i64.wrap (2 * ((pSize n : Nat) : Int)) = ((2 * pSize n : Nat) : Int) := by rw [wrap_id (by omega)]; omega
  have a7 : IntKind.i64.wrap (2 + ((2 * pSize n : Nat) : Int)) = ((2 + 2 * pSize n : Nat) : Int) := by rw [wrap_id (by omega)]; omega
  rw [a1, a2, a3, a4, a5, a6, a7]
  simp only [nn_some, add_mk, Nat.zero_add, Nat.add_zero, Nat.reduceAdd, Nat.reduceMul, Option.isNone_some, Option.isNone_none, br_true, br_false, Bool.not_true, Bool.not_false, xI_eq, xB_eq, xS_eq, xP_eq, xL_eq, x0_eq, x2_eq, x3_eq, chk_eq, true_and, and_true, List.set_cons_zero, List.set_cons_succ, List.eraseIdx_cons_zero, List.eraseIdx_cons_succ]
  refine ⟨by decide, ?_⟩
  refine stN_pt (k := 0) hs rfl (Nat.le_of_ble_eq_true rfl) (by simp [Value.oneCell']) fun w hs => ?_
  rw [over_all (by simp)] at hs
  refine ldN_pt (k := 0) (xs := planCells n) hs rfl rfl (fun j v hj => by rw [Nat.zero_add]; exact hj) ?_
  exact hK w hs.drop

theorem At_spec {n : Nat} {which : Int} {K : VK} (h : St W w L) (hK : ∀ w', St W w' L → K (.int .i64 (slotAt n which : Nat)) w') : slot_Plan_At (planCells n) which K w := by
  unfold slot_Plan_At
  refine mk_of h fun r w hs => ?_
  simp only [nn_some, add_mk, Nat.zero_add, Nat.add_zero, Nat.reduceAdd, Nat.reduceMul, Option.isNone_some, Option.isNone_none, br_true, br_false, Bool.not_true, Bool.not_false, xI_eq, xB_eq, xS_eq, xP_eq, xL_eq, x0_eq, x2_eq, x3_eq, chk_eq, true_and, and_true, List.set_cons_zero, List.set_cons_succ, List.eraseIdx_cons_zero, List.eraseIdx_cons_succ]
  refine ld_pt (k := 0) hs rfl rfl ?_
  simp only [nn_some, add_mk, Nat.zero_add, Nat.add_zero, Nat.reduceAdd, Nat.reduceMul, Option.isNone_some, Option.isNone_none, br_true, br_false, Bool.not_true, Bool.not_false, xI_eq, xB_eq, xS_eq, xP_eq, xL_eq, x0_eq, x2_eq, x3_eq, chk_eq, true_and, and_true, List.set_cons_zero, List.set_cons_succ, List.eraseIdx_cons_zero, List.eraseIdx_cons_succ]
  refine ld_pt (k := 0) hs rfl rfl ?_
  simp only [nn_some, add_mk, Nat.zero_add, Nat.add_zero, Nat.reduceAdd, Nat.reduceMul, Option.isNone_some, Option.isNone_none, br_true, br_false, Bool.not_true, Bool.not_false, xI_eq, xB_eq, xS_eq, xP_eq, xL_eq, x0_eq, x2_eq, x3_eq, chk_eq, true_and, and_true, List.set_cons_zero, List.set_cons_succ, List.eraseIdx_cons_zero, List.eraseIdx_cons_succ]
  have hl := low_in which
  have hh := hK w hs.drop
  unfold slotAt at hh
  show ixArr _ 2 (low which) _ w
  rcases hl with h0 | h0
  · rw [if_pos h0] at hh
    rw [h0]
    refine ⟨_, ⟨by decide, by decide, rfl⟩, ?_⟩
    simp only [nn_some, add_mk, Nat.zero_add, Nat.add_zero, Nat.reduceAdd, Nat.reduceMul, Option.isNone_some, Option.isNone_none, br_true, br_false, Bool.not_true, Bool.not_false, xI_eq, xB_eq, xS_eq, xP_eq, xL_eq, x0_eq, x2_eq, x3_eq, chk_eq, true_and, and_true, List.set_cons_zero, List.set_cons_succ, List.eraseIdx_cons_zero, List.eraseIdx_cons_succ]
    exact hh
  · rw [if_neg (by omega)] at hh
    rw [h0]
    refine ⟨_, ⟨by decide, by decide, rfl⟩, ?_⟩
    simp only [nn_some, add_mk, Nat.zero_add, Nat.add_zero, Nat.reduceAdd, Nat.reduceMul, Option.isNone_some, Option.isNone_none, br_true, br_false, Bool.not_true, Bool.not_false, xI_eq, xB_eq, xS_eq, xP_eq, xL_eq, x0_eq, x2_eq, x3_eq, chk_eq, true_and, and_true, List.set_cons_zero, List.set_cons_succ, List.eraseIdx_cons_zero, List.eraseIdx_cons_succ]
    exact hh

theorem Put_spec {n : Nat} {which number : Int} {s : ByteArray} {K : VK} (h : St W w L) (hk : L[k]? = some (disk d D)) (hok : D.Ok) (h12 : 12 ≤ n) (h4096 : n ≤ 4096) (hl : D.later.length + 5000 < 1099511627776) (hs : s.size ≤ reachBytes)
    (hK : ∀ w', St W w' (L.set k (disk d (put D n which number s).1)) → K (.int .i64 (put D n which number s).2) w') : slot_Plan_Put (planCells n) (some ⟨d, 0, none⟩) which number s K w := by
  have hin := slotAt_in h12 which
  unfold slot_Plan_Put
  refine mk_of h fun r w hs' => ?_
  have hsz := hs
  simp only [nn_some, add_mk, Nat.zero_add, Nat.add_zero, Nat.reduceAdd, Nat.reduceMul, Option.isNone_some, Option.isNone_none, br_true, br_false, Bool.not_true, Bool.not_false, xI_eq, xB_eq, xS_eq, xP_eq, xL_eq, x0_eq, x2_eq, x3_eq, chk_eq, true_and, and_true, List.set_cons_zero, List.set_cons_succ, List.eraseIdx_cons_zero, List.eraseIdx_cons_succ]
  refine tick_of hs' fun w hs => ?_
  refine ldN_pt (k := 0) (xs := planCells n) hs rfl rfl (fun j v hj => by rw [Nat.zero_add]; exact hj) ?_
  refine ldN_pt (k := 0) (xs := planCells n) hs rfl rfl (fun j v hj => by rw [Nat.zero_add]; exact hj) ?_
  refine ld_pt (k := 0) hs rfl rfl ?_
  simp only [nn_some, add_mk, Nat.zero_add, Nat.add_zero, Nat.reduceAdd, Nat.reduceMul, Option.isNone_some, Option.isNone_none, br_true, br_false, Bool.not_true, Bool.not_false, xI_eq, xB_eq, xS_eq, xP_eq, xL_eq, x0_eq, x2_eq, x3_eq, chk_eq, true_and, and_true, List.set_cons_zero, List.set_cons_succ, List.eraseIdx_cons_zero, List.eraseIdx_cons_succ]
  refine At_spec hs fun w hs => ?_
  simp only [nn_some, add_mk, Nat.zero_add, Nat.add_zero, Nat.reduceAdd, Nat.reduceMul, Option.isNone_some, Option.isNone_none, br_true, br_false, Bool.not_true, Bool.not_false, xI_eq, xB_eq, xS_eq, xP_eq, xL_eq, x0_eq, x2_eq, x3_eq, chk_eq, true_and, and_true, List.set_cons_zero, List.set_cons_succ, List.eraseIdx_cons_zero, List.eraseIdx_cons_succ]
  refine kp_one (k := 0) hs rfl rfl ?_
  refine kp_pt (k := 0) hs rfl (fun j v hj => by rw [Nat.zero_add]; exact hj) ?_
  refine At_spec hs fun w hs => ?_
  simp only [nn_some, add_mk, Nat.zero_add, Nat.add_zero, Nat.reduceAdd, Nat.reduceMul, Option.isNone_some, Option.isNone_none, br_true, br_false, Bool.not_true, Bool.not_false, xI_eq, xB_eq, xS_eq, xP_eq, xL_eq, x0_eq, x2_eq, x3_eq, chk_eq, true_and, and_true, List.set_cons_zero, List.set_cons_succ, List.eraseIdx_cons_zero, List.eraseIdx_cons_succ]
  refine kp_one (k := 0) hs rfl rfl ?_
  have ew : IntKind.i64.wrap (((slotAt n which : Nat) : Int) + ((pSize n : Nat) : Int)) = ((slotAt n which + pSize n : Nat) : Int) := by rw [wrap_id (by omega)]; omega
  rw [ew]
  have hk2 : (pt r (planCells n) :: L)[k + 1]? = some (disk d D) := by rw [List.getElem?_cons_succ]; exact hk
  refine Lay_spec (k := k + 1) hs hk2 hok (by omega) hsz fun w hs => ?_
  rw [List.set_cons_succ] at hs
  simp only [nn_some, add_mk, Nat.zero_add, Nat.add_zero, Nat.reduceAdd, Nat.reduceMul, Option.isNone_some, Option.isNone_none, br_true, br_false, Bool.not_true, Bool.not_false, xI_eq, xB_eq, xS_eq, xP_eq, xL_eq, x0_eq, x2_eq, x3_eq, chk_eq, true_and, and_true, List.set_cons_zero, List.set_cons_succ, List.eraseIdx_cons_zero, List.eraseIdx_cons_succ]
  refine kp_one (k := 0) hs rfl rfl ?_
  unfold put at hK
  have hlok : (lay D (slotAt n which) ((slotAt n which + pSize n : Nat) : Int) number s).1.Ok ∨ (lay D (slotAt n which) ((slotAt n which + pSize n : Nat) : Int) number s).2 ≠ 0 := by
    by_cases hc : cnt s.size ≤ 4097
    · exact .inl (lay_ok hok (by omega)).1
    · refine .inr ?_
      unfold lay
      split
      · simp
      · rw [if_pos (by omega)]; simp
  refine br_ne (fun hne => ?_) (fun h0 => ?_)
  · rw [if_pos hne] at hK
    exact hK w hs.drop
  · rw [if_neg (fun hh => hh h0)] at hK
    refine Disk_Sync_spec (k := k + 1) hs (by rw [List.getElem?_cons_succ]; exact set_get hk) (hlok.resolve_right (fun hh => hh h0)) fun w hs => ?_
    rw [List.set_cons_succ, List.set_set] at hs
    simp only [nn_some, add_mk, Nat.zero_add, Nat.add_zero, Nat.reduceAdd, Nat.reduceMul, Option.isNone_some, Option.isNone_none, br_true, br_false, Bool.not_true, Bool.not_false, xI_eq, xB_eq, xS_eq, xP_eq, xL_eq, x0_eq, x2_eq, x3_eq, chk_eq, true_and, and_true, List.set_cons_zero, List.set_cons_succ, List.eraseIdx_cons_zero, List.eraseIdx_cons_succ]
    exact hK w hs.drop

theorem Get_spec {n : Nat} {which number size : Int} {K : VK} (h : St W w L) (hk : L[k]? = some (disk d D)) (hok : D.Ok) (h12 : 12 ≤ n) (h4096 : n ≤ 4096)
    (hK : ∀ w', St W w' L → K (takeRes (get D n which number size)) w') : slot_Plan_Get (planCells n) (some ⟨d, 0, none⟩) which number size K w := by
  have hin := slotAt_in h12 which
  unfold slot_Plan_Get
  refine mk_of h fun r w hs' => ?_
  simp only [nn_some, add_mk, Nat.zero_add, Nat.add_zero, Nat.reduceAdd, Nat.reduceMul, Option.isNone_some, Option.isNone_none, br_true, br_false, Bool.not_true, Bool.not_false, xI_eq, xB_eq, xS_eq, xP_eq, xL_eq, x0_eq, x2_eq, x3_eq, chk_eq, true_and, and_true, List.set_cons_zero, List.set_cons_succ, List.eraseIdx_cons_zero, List.eraseIdx_cons_succ]
  refine tick_of hs' fun w hs => ?_
  refine ldN_pt (k := 0) (xs := planCells n) hs rfl rfl (fun j v hj => by rw [Nat.zero_add]; exact hj) ?_
  refine ldN_pt (k := 0) (xs := planCells n) hs rfl rfl (fun j v hj => by rw [Nat.zero_add]; exact hj) ?_
  refine ld_pt (k := 0) hs rfl rfl ?_
  simp only [nn_some, add_mk, Nat.zero_add, Nat.add_zero, Nat.reduceAdd, Nat.reduceMul, Option.isNone_some, Option.isNone_none, br_true, br_false, Bool.not_true, Bool.not_false, xI_eq, xB_eq, xS_eq, xP_eq, xL_eq, x0_eq, x2_eq, x3_eq, chk_eq, true_and, and_true, List.set_cons_zero, List.set_cons_succ, List.eraseIdx_cons_zero, List.eraseIdx_cons_succ]
  refine At_spec hs fun w hs => ?_
  simp only [nn_some, add_mk, Nat.zero_add, Nat.add_zero, Nat.reduceAdd, Nat.reduceMul, Option.isNone_some, Option.isNone_none, br_true, br_false, Bool.not_true, Bool.not_false, xI_eq, xB_eq, xS_eq, xP_eq, xL_eq, x0_eq, x2_eq, x3_eq, chk_eq, true_and, and_true, List.set_cons_zero, List.set_cons_succ, List.eraseIdx_cons_zero, List.eraseIdx_cons_succ]
  refine kp_one (k := 0) hs rfl rfl ?_
  refine kp_pt (k := 0) hs rfl (fun j v hj => by rw [Nat.zero_add]; exact hj) ?_
  refine At_spec hs fun w hs => ?_
  simp only [nn_some, add_mk, Nat.zero_add, Nat.add_zero, Nat.reduceAdd, Nat.reduceMul, Option.isNone_some, Option.isNone_none, br_true, br_false, Bool.not_true, Bool.not_false, xI_eq, xB_eq, xS_eq, xP_eq, xL_eq, x0_eq, x2_eq, x3_eq, chk_eq, true_and, and_true, List.set_cons_zero, List.set_cons_succ, List.eraseIdx_cons_zero, List.eraseIdx_cons_succ]
  refine kp_one (k := 0) hs rfl rfl ?_
  have ew : IntKind.i64.wrap (((slotAt n which : Nat) : Int) + ((pSize n : Nat) : Int)) = ((slotAt n which + pSize n : Nat) : Int) := by rw [wrap_id (by omega)]; omega
  rw [ew]
  refine Take_spec (k := k + 1) hs (by rw [List.getElem?_cons_succ]; exact hk) hok fun w hs => ?_
  unfold get at hK
  cases hg : take D (slotAt n which) ((slotAt n which + pSize n : Nat) : Int) number size with
  | none =>
    rw [hg] at hK
    unfold takeRes at hK ⊢
    simp only [nn_some, add_mk, Nat.zero_add, Nat.add_zero, Nat.reduceAdd, Nat.reduceMul, Option.isNone_some, Option.isNone_none, br_true, br_false, Bool.not_true, Bool.not_false, xI_eq, xB_eq, xS_eq, xP_eq, xL_eq, x0_eq, x2_eq, x3_eq, chk_eq, true_and, and_true, List.set_cons_zero, List.set_cons_succ, List.eraseIdx_cons_zero, List.eraseIdx_cons_succ]
    refine kp_one (k := 0) hs rfl rfl ?_
    exact hK w hs.drop
  | some l =>
    rw [hg] at hK
    unfold takeRes at hK ⊢
    simp only [nn_some, add_mk, Nat.zero_add, Nat.add_zero, Nat.reduceAdd, Nat.reduceMul, Option.isNone_some, Option.isNone_none, br_true, br_false, Bool.not_true, Bool.not_false, xI_eq, xB_eq, xS_eq, xP_eq, xL_eq, x0_eq, x2_eq, x3_eq, chk_eq, true_and, and_true, List.set_cons_zero, List.set_cons_succ, List.eraseIdx_cons_zero, List.eraseIdx_cons_succ]
    refine kp_one (k := 0) hs rfl rfl ?_
    exact hK w hs.drop
end
end Go.Sep

/- Layer 7: what is put is there; the law SlotOver. -/
namespace Go.Sep
open Go.Den Go.RowKit Go.Prog Go.Plat
set_option linter.unusedSimpArgs false
set_option linter.unusedVariables false

/-- A disk that isn't armed, of 'n' sectors. -/
structure Calm (n : Nat) (D : Disk) : Prop where
  ok : D.Ok
  arm : D.arm = 0
  later : D.later.length ≤ 1000
  len : D.safe.length = n

theorem calm_new {n : Nat} (h : n ≤ 4096) : Calm n (Disk.new n) := by
  refine ⟨new_ok n, rfl, Nat.zero_le _, ?_⟩
  simp only [Disk.new, List.length_replicate]
  have : min2 (max2 (n : Int) 0) 4096 = n := by unfold min2 max2; split <;> split <;> omega
  rw [this]; omega

theorem new_read {n : Nat} (h : n ≤ 4096) {j : Nat} (hj : j < n) : ((Disk.new n).read (j : Int)).1 = zeros 128 := by
  have hc := calm_new h
  rw [read_safe (D := Disk.new n) rfl (i := j) (by rw [hc.len]; exact hj)]
  simp [Disk.new]

theorem put_long {n : Nat} {D : Disk} {which number : Int} {s : ByteArray} (h : Calm n D) (h12 : 12 ≤ n) (hnum : 1 ≤ number ∧ number ≤ 1152921504606846976) (hl : pSize n < cnt s.size) : put D n which number s = (D, 3) := by
  have hin := slotAt_in h12 which
  have e : lay D (slotAt n which) ((slotAt n which + pSize n : Nat) : Int) number s = (D, 3) := by
    unfold lay
    rw [if_neg (by rw [h.len]; omega), if_pos (by omega)]
  unfold put
  rw [e, if_pos (by simp)]

theorem put_fits {n : Nat} {D : Disk} {which number : Int} {s : ByteArray} (h : Calm n D) (h12 : 12 ≤ n) (h4096 : n ≤ 4096) (hnum : 1 ≤ number ∧ number ≤ 1152921504606846976) (hl : cnt s.size ≤ pSize n) :
    (put D n which number s).2 = 0 ∧ Calm n (put D n which number s).1 ∧ (∀ q : Nat, q < cnt s.size → ((put D n which number s).1.read (((slotAt n which : Nat) : Int) + q)).1 = leaf number q (part s q)) ∧
    ∀ j : Nat, j < n → (j < slotAt n which ∨ slotAt n which + pSize n ≤ j) → ((put D n which number s).1.read (j : Int)).1 = (D.read (j : Int)).1 := by
  have hin := slotAt_in h12 which
  have e : lay D (slotAt n which) ((slotAt n which + pSize n : Nat) : Int) number s = layF (slotAt n which) number s D 0 (cnt s.size) := by
    unfold lay
    rw [if_neg (by rw [h.len]; omega), if_neg (by omega)]
  have hl0 := layF0 (at' := ((slotAt n which : Nat) : Int)) (number := number) (s := s) hnum (by omega) (cnt s.size) 0 (D := D) h.arm (by rw [h.len]; omega) (by omega)
  have hli := layF_in (at' := ((slotAt n which : Nat) : Int)) (number := number) (s := s) hnum (by omega) (cnt s.size) 0 (D := D) h.arm (by rw [h.len]; omega) (by omega)
  have hok := layF_ok (at' := ((slotAt n which : Nat) : Int)) (number := number) (s := s) (cnt s.size) 0 h.ok (by have := h.later; omega)
  unfold put
  rw [e]
  obtain ⟨l1, l2, l3, l4, l5⟩ := hl0
  rw [if_neg (fun hh => hh l1)]
  generalize (layF ((slotAt n which : Nat) : Int) number s D 0 (cnt s.size)).1 = D1 at *
  have hlen1 : D1.safe.length = n := by rw [l3]; exact h.len
  have hs0 := Dk.sync0 l2
  have hcalm : Calm n D1.sync.1 := ⟨sync_ok hok.1, Dk.sync0_arm l2, by rw [hs0]; exact Nat.zero_le _, by rw [Dk.sync_len.1]; exact hlen1⟩
  have hrd : ∀ j : Nat, j < n → (D1.sync.1.read (j : Int)).1 = D1.now (j : Int) := fun j hj => by
    have h1 : D1.sync.1.is (j : Int) := ⟨by omega, by rw [hcalm.len]; omega⟩
    have h2 : D1.is (j : Int) := ⟨by omega, by rw [hlen1]; omega⟩
    unfold Disk.read
    rw [if_pos h1]
    exact Dk.now_sync0 l2 hok.1 h2
  refine ⟨by rw [hs0], hcalm, fun q hq => ?_, fun j hj hj2 => ?_⟩
  · have := hrd (slotAt n which + q) (by omega)
    rw [show (((slotAt n which : Nat) : Int) + (q : Int)) = ((slotAt n which + q : Nat) : Int) from by omega, this, show ((slotAt n which + q : Nat) : Int) = ((slotAt n which : Nat) : Int) + (q : Int) from by omega]
    exact hli q (Nat.zero_le _) (by omega)
  · rw [hrd j hj, l5 (j : Int) (by omega)]
    have h2 : D.is (j : Int) := ⟨by omega, by rw [h.len]; omega⟩
    unfold Disk.read
    rw [if_pos h2]

/-- What lies in a slot is told. -/
theorem get_all {n : Nat} {D : Disk} {which number : Int} {s : ByteArray} (hlen : D.safe.length = n) (h12 : 12 ≤ n) (h4096 : n ≤ 4096) (hnum : 1 ≤ number ∧ number ≤ 1152921504606846976) (hl : cnt s.size ≤ pSize n)
    (hr : ∀ q : Nat, q < cnt s.size → (D.read (((slotAt n which : Nat) : Int) + q)).1 = leaf number q (part s q)) : get D n which number s.size = some s.data.toList := by
  have hin := slotAt_in h12 which
  have hb : s.size ≤ 104 * cnt s.size := by unfold cnt; split <;> omega
  have hps : ∀ q : Nat, (part s q).size = min (104 * (q + 1)) s.size - 104 * q := fun q => by unfold part; rw [strEx]
  unfold get take
  rw [if_neg (by rw [hlen, Int.toNat_natCast]; omega), Int.toNat_natCast, takeF_all (s := s) (cnt s.size) 0 (fun q _ hq => by
    rw [hr q (by omega)]
    have hg : Good number q (part s q) := ⟨hnum.1, hnum.2, by omega, by omega, part_size s q⟩
    unfold leaf
    rw [if_pos hg]
    exact ⟨readV_leaf hg, by rw [hps]; omega⟩)]
  congr 1
  rw [Nat.mul_zero, List.drop_zero, List.take_of_length_le (by rw [toList_length]; exact hb)]

/-- What another number bears isn't. -/
theorem get_other {n : Nat} {D : Disk} {which number size : Int} (h : ∀ m j d, readV (D.read (((slotAt n which : Nat) : Int) + ((0 : Nat) : Int))).1.data.toList = some (m, j, d) → m ≠ number) : get D n which number size = none := by
  unfold get take
  split
  · rfl
  · have := cnt_pos size.toNat
    exact takeF_none _ 0 0 (Nat.le_refl _) (by omega) fun m j d hv hh => h m j d hv hh.1

section
variable {W w : World} {L : List HP}

theorem alive7_spec {K : VK} (h : St W w L) (hK : ∀ w', St W w' L → K (.bool true) w') : bondstorelaw07_alive K w := by
  unfold bondstorelaw07_alive
  refine Of_spec (n := 12) h (by decide) (by decide) fun w h => ?_
  simp only [nn_some, add_mk, Nat.zero_add, Nat.add_zero, Nat.reduceAdd, Nat.reduceMul, Option.isNone_some, Option.isNone_none, br_true, br_false, Bool.not_true, Bool.not_false, xI_eq, xB_eq, xS_eq, xP_eq, xL_eq, x0_eq, x2_eq, x3_eq, chk_eq, true_and, and_true, List.set_cons_zero, List.set_cons_succ, List.eraseIdx_cons_zero, List.eraseIdx_cons_succ]
  simp only [xA_eq]
  refine ⟨rfl, ?_⟩
  simp only [nn_some, add_mk, Nat.zero_add, Nat.add_zero, Nat.reduceAdd, Nat.reduceMul, Option.isNone_some, Option.isNone_none, br_true, br_false, Bool.not_true, Bool.not_false, xI_eq, xB_eq, xS_eq, xP_eq, xL_eq, x0_eq, x2_eq, x3_eq, chk_eq, true_and, and_true, List.set_cons_zero, List.set_cons_succ, List.eraseIdx_cons_zero, List.eraseIdx_cons_succ]
  refine mk_of h fun r w hs => ?_
  refine ⟨rfl, stN_pt (k := 0) hs rfl (Nat.le_of_ble_eq_true rfl) (by simp [Value.oneCell', planCells]) fun w hs => ?_⟩
  rw [over_all (by simp [planCells])] at hs
  simp only [nn_some, add_mk, Nat.zero_add, Nat.add_zero, Nat.reduceAdd, Nat.reduceMul, Option.isNone_some, Option.isNone_none, br_true, br_false, Bool.not_true, Bool.not_false, xI_eq, xB_eq, xS_eq, xP_eq, xL_eq, x0_eq, x2_eq, x3_eq, chk_eq, true_and, and_true, List.set_cons_zero, List.set_cons_succ, List.eraseIdx_cons_zero, List.eraseIdx_cons_succ] at hs
  refine New_spec hs fun d w hs => ?_
  simp only [nn_some, add_mk, Nat.zero_add, Nat.add_zero, Nat.reduceAdd, Nat.reduceMul, Option.isNone_some, Option.isNone_none, br_true, br_false, Bool.not_true, Bool.not_false, xI_eq, xB_eq, xS_eq, xP_eq, xL_eq, x0_eq, x2_eq, x3_eq, chk_eq, true_and, and_true, List.set_cons_zero, List.set_cons_succ, List.eraseIdx_cons_zero, List.eraseIdx_cons_succ]
  refine ldN_pt (k := 1) (xs := planCells 12) hs rfl rfl (fun j v hj => by rw [Nat.zero_add]; exact hj) ?_
  have hc := calm_new (n := 12) (by decide)
  have hp := put_fits (which := 0) (number := 1) (s := ⟨#[97]⟩) hc (by decide) (by decide) (by decide) (by decide)
  refine Put_spec (n := 12) (k := 0) hs rfl hc.ok (by decide) (by decide) (by decide +kernel) (by decide) fun w hs => ?_
  simp only [nn_some, add_mk, Nat.zero_add, Nat.add_zero, Nat.reduceAdd, Nat.reduceMul, Option.isNone_some, Option.isNone_none, br_true, br_false, Bool.not_true, Bool.not_false, xI_eq, xB_eq, xS_eq, xP_eq, xL_eq, x0_eq, x2_eq, x3_eq, chk_eq, true_and, and_true, List.set_cons_zero, List.set_cons_succ, List.eraseIdx_cons_zero, List.eraseIdx_cons_succ] at hs ⊢
  refine ldN_pt (k := 1) (xs := planCells 12) hs rfl rfl (fun j v hj => by rw [Nat.zero_add]; exact hj) ?_
  refine Get_spec (n := 12) (k := 0) hs rfl hp.2.1.ok (by decide) (by decide) fun w hs => ?_
  have hg := get_all (which := 0) (number := 1) (s := ⟨#[97]⟩) hp.2.1.len (by decide) (by decide) (by decide) (by decide) hp.2.2.1
  have hg' : get (put (Disk.new 12) 12 0 1 ⟨#[97]⟩).1 12 0 1 1 = some (⟨#[97]⟩ : ByteArray).data.toList := hg
  rw [hg']
  unfold takeRes
  simp only [nn_some, add_mk, Nat.zero_add, Nat.add_zero, Nat.reduceAdd, Nat.reduceMul, Option.isNone_some, Option.isNone_none, br_true, br_false, Bool.not_true, Bool.not_false, xI_eq, xB_eq, xS_eq, xP_eq, xL_eq, x0_eq, x2_eq, x3_eq, chk_eq, true_and, and_true, List.set_cons_zero, List.set_cons_succ, List.eraseIdx_cons_zero, List.eraseIdx_cons_succ]
  rw [beq_self_eq_true, br_true]
  refine ldN_pt (k := 1) (xs := planCells 12) hs rfl rfl (fun j v hj => by rw [Nat.zero_add]; exact hj) ?_
  refine ⟨by decide, ⟨⟨rfl, rfl⟩, ?_⟩⟩
  have e1 : eqCells (planCells 12) [.int .i64 2, .int .i64 6, .int .i64 4, .int .i64 10, .int .i64 12] = true := by decide
  rw [e1]
  dsimp only
  rw [br_true]
  have e2 : ((put (Disk.new 12) 12 0 1 ⟨#[97]⟩).2 == 0) = true := by
    have := hp.1
    simp only [beq_iff_eq]; exact this
  have e3 : strEq (bs [97]) ⟨#[97]⟩ = true := by rw [strEq_iff]; exact decide_eq_true rfl
  rw [e2, br_true, e3]
  exact hK w hs.drop.drop

theorem Over_spec {n which : Int} {a b : ByteArray} {K : VK} (h : St W w L) (ha : a.size ≤ reachBytes) (hb : b.size ≤ reachBytes) (hK : ∀ w', St W w' L → K (.bool true) w') : bondstorelaw07_SlotOver n a b which K w := by
  have ha' : a.size ≤ 140737488351232 := ha
  have hb' : b.size ≤ 140737488351232 := hb
  unfold bondstorelaw07_SlotOver
  refine alive7_spec h fun w h => ?_
  simp only [nn_some, add_mk, Nat.zero_add, Nat.add_zero, Nat.reduceAdd, Nat.reduceMul, Option.isNone_some, Option.isNone_none, br_true, br_false, Bool.not_true, Bool.not_false, xI_eq, xB_eq, xS_eq, xP_eq, xL_eq, x0_eq, x2_eq, x3_eq, chk_eq, true_and, and_true, List.set_cons_zero, List.set_cons_succ, List.eraseIdx_cons_zero, List.eraseIdx_cons_succ]
  have go : ∀ c, (c = false → 12 ≤ n ∧ n ≤ 60) → bondstorelaw07_SlotOver.j1 K n which a b c w := fun c hc => by
    unfold bondstorelaw07_SlotOver.j1
    refine br_of (fun _ => hK w h) (fun hf => ?_)
    obtain ⟨h12, h60⟩ := hc hf
    obtain ⟨m, rfl⟩ := Int.eq_ofNat_of_zero_le (show 0 ≤ n by omega)
    have m12 : 12 ≤ m := by omega
    have m4096 : m ≤ 4096 := by omega
    refine Of_spec (n := m) h m12 m4096 fun w h => ?_
    simp only [nn_some, add_mk, Nat.zero_add, Nat.add_zero, Nat.reduceAdd, Nat.reduceMul, Option.isNone_some, Option.isNone_none, br_true, br_false, Bool.not_true, Bool.not_false, xI_eq, xB_eq, xS_eq, xP_eq, xL_eq, x0_eq, x2_eq, x3_eq, chk_eq, true_and, and_true, List.set_cons_zero, List.set_cons_succ, List.eraseIdx_cons_zero, List.eraseIdx_cons_succ]
    simp only [xA_eq]
    refine ⟨rfl, ?_⟩
    simp only [nn_some, add_mk, Nat.zero_add, Nat.add_zero, Nat.reduceAdd, Nat.reduceMul, Option.isNone_some, Option.isNone_none, br_true, br_false, Bool.not_true, Bool.not_false, xI_eq, xB_eq, xS_eq, xP_eq, xL_eq, x0_eq, x2_eq, x3_eq, chk_eq, true_and, and_true, List.set_cons_zero, List.set_cons_succ, List.eraseIdx_cons_zero, List.eraseIdx_cons_succ]
    refine mk_of h fun r w hs => ?_
    refine ⟨rfl, stN_pt (k := 0) hs rfl (Nat.le_of_ble_eq_true rfl) (by simp [Value.oneCell', planCells]) fun w hs => ?_⟩
    rw [over_all (by simp [planCells])] at hs
    simp only [nn_some, add_mk, Nat.zero_add, Nat.add_zero, Nat.reduceAdd, Nat.reduceMul, Option.isNone_some, Option.isNone_none, br_true, br_false, Bool.not_true, Bool.not_false, xI_eq, xB_eq, xS_eq, xP_eq, xL_eq, x0_eq, x2_eq, x3_eq, chk_eq, true_and, and_true, List.set_cons_zero, List.set_cons_succ, List.eraseIdx_cons_zero, List.eraseIdx_cons_succ] at hs
    refine New_spec hs fun d w hs => ?_
    simp only [nn_some, add_mk, Nat.zero_add, Nat.add_zero, Nat.reduceAdd, Nat.reduceMul, Option.isNone_some, Option.isNone_none, br_true, br_false, Bool.not_true, Bool.not_false, xI_eq, xB_eq, xS_eq, xP_eq, xL_eq, x0_eq, x2_eq, x3_eq, chk_eq, true_and, and_true, List.set_cons_zero, List.set_cons_succ, List.eraseIdx_cons_zero, List.eraseIdx_cons_succ]
    have hcm := calm_new m4096
    refine ldN_pt (k := 1) (xs := planCells m) hs rfl rfl (fun j v hj => by rw [Nat.zero_add]; exact hj) ?_
    refine Put_spec (n := m) (k := 0) hs rfl hcm.ok m12 m4096 (by have := hcm.later; omega) ha fun w hs => ?_
    simp only [nn_some, add_mk, Nat.zero_add, Nat.add_zero, Nat.reduceAdd, Nat.reduceMul, Option.isNone_some, Option.isNone_none, br_true, br_false, Bool.not_true, Bool.not_false, xI_eq, xB_eq, xS_eq, xP_eq, xL_eq, x0_eq, x2_eq, x3_eq, chk_eq, true_and, and_true, List.set_cons_zero, List.set_cons_succ, List.eraseIdx_cons_zero, List.eraseIdx_cons_succ] at hs ⊢
    by_cases hfa : cnt a.size ≤ pSize m
    · obtain ⟨p1, p2, p3, p4⟩ := put_fits (which := which) (number := 1) hcm m12 m4096 (by decide) hfa
      rw [p1]
      generalize (put (Disk.new m) m which 1 a).1 = D1 at *
      refine br_ne (fun hh => absurd rfl hh) (fun _ => ?_)
      refine ldN_pt (k := 1) (xs := planCells m) hs rfl rfl (fun j v hj => by rw [Nat.zero_add]; exact hj) ?_
      refine Put_spec (n := m) (k := 0) hs rfl p2.ok m12 m4096 (by have := p2.later; omega) hb fun w hs => ?_
      simp only [nn_some, add_mk, Nat.zero_add, Nat.add_zero, Nat.reduceAdd, Nat.reduceMul, Option.isNone_some, Option.isNone_none, br_true, br_false, Bool.not_true, Bool.not_false, xI_eq, xB_eq, xS_eq, xP_eq, xL_eq, x0_eq, x2_eq, x3_eq, chk_eq, true_and, and_true, List.set_cons_zero, List.set_cons_succ, List.eraseIdx_cons_zero, List.eraseIdx_cons_succ] at hs ⊢
      by_cases hfb : cnt b.size ≤ pSize m
      · obtain ⟨q1, q2, q3, q4⟩ := put_fits (which := which) (number := 2) p2 m12 m4096 (by decide) hfb
        rw [q1]
        generalize (put D1 m which 2 b).1 = D2 at *
        have hin := slotAt_in m12 which
        have hin2 := slotAt_in m12 (isum .i64 .xor which 1)
        have g2 := get_all (which := which) (number := 2) (s := b) q2.len m12 m4096 (by decide) hfb q3
        have g1 : get D2 m which 1 (a.size : Int) = none := get_other fun x j dd hv => by
          have hpos := cnt_pos b.size
          rw [q3 0 (by omega)] at hv
          have hg : Good 2 ((0 : Nat) : Int) (part b 0) := ⟨by decide, by decide, by decide, by decide, part_size b 0⟩
          unfold leaf at hv
          rw [if_pos hg] at hv
          have := (readV_leaf hg).symm.trans hv
          cases this
          decide
        have g3 : get D2 m (isum .i64 .xor which 1) 2 (b.size : Int) = none := get_other fun x j dd hv => by
          have hap := slot_apart (n := m) (isum .i64 .xor which 1) which (by rw [low_flip]; have := low_in which; omega)
          have e : ((slotAt m (isum .i64 .xor which 1) : Nat) : Int) + ((0 : Nat) : Int) = ((slotAt m (isum .i64 .xor which 1) : Nat) : Int) := by omega
          rw [e, q4 _ (by omega) (by omega), p4 _ (by omega) (by omega), new_read m4096 (by omega), readV_zeros] at hv
          cases hv
        unfold bondstorelaw07_SlotOver.j2
        have ef : ((0 : Int) != 0) = false := rfl
        rw [ef, br_false]
        refine ldN_pt (k := 1) (xs := planCells m) hs rfl rfl (fun j v hj => by rw [Nat.zero_add]; exact hj) ?_
        refine Get_spec (n := m) (k := 0) hs rfl q2.ok m12 m4096 fun w hs => ?_
        rw [g1]
        unfold takeRes
        simp only [nn_some, add_mk, Nat.zero_add, Nat.add_zero, Nat.reduceAdd, Nat.reduceMul, Option.isNone_some, Option.isNone_none, br_true, br_false, Bool.not_true, Bool.not_false, xI_eq, xB_eq, xS_eq, xP_eq, xL_eq, x0_eq, x2_eq, x3_eq, chk_eq, true_and, and_true, List.set_cons_zero, List.set_cons_succ, List.eraseIdx_cons_zero, List.eraseIdx_cons_succ]
        refine ldN_pt (k := 1) (xs := planCells m) hs rfl rfl (fun j v hj => by rw [Nat.zero_add]; exact hj) ?_
        refine Get_spec (n := m) (k := 0) hs rfl q2.ok m12 m4096 fun w hs => ?_
        rw [g2]
        unfold takeRes
        simp only [nn_some, add_mk, Nat.zero_add, Nat.add_zero, Nat.reduceAdd, Nat.reduceMul, Option.isNone_some, Option.isNone_none, br_true, br_false, Bool.not_true, Bool.not_false, xI_eq, xB_eq, xS_eq, xP_eq, xL_eq, x0_eq, x2_eq, x3_eq, chk_eq, true_and, and_true, List.set_cons_zero, List.set_cons_succ, List.eraseIdx_cons_zero, List.eraseIdx_cons_succ]
        refine ldN_pt (k := 1) (xs := planCells m) hs rfl rfl (fun j v hj => by rw [Nat.zero_add]; exact hj) ?_
        refine Get_spec (n := m) (k := 0) hs rfl q2.ok m12 m4096 fun w hs => ?_
        rw [g3]
        unfold takeRes
        simp only [nn_some, add_mk, Nat.zero_add, Nat.add_zero, Nat.reduceAdd, Nat.reduceMul, Option.isNone_some, Option.isNone_none, br_true, br_false, Bool.not_true, Bool.not_false, xI_eq, xB_eq, xS_eq, xP_eq, xL_eq, x0_eq, x2_eq, x3_eq, chk_eq, true_and, and_true, List.set_cons_zero, List.set_cons_succ, List.eraseIdx_cons_zero, List.eraseIdx_cons_succ]
        rw [bs_data, strEq_iff, decide_eq_true rfl]
        exact hK w hs.drop.drop
      · have e := put_long (which := which) (number := 2) (s := b) p2 m12 (by decide) (by omega)
        rw [e] at hs ⊢
        unfold bondstorelaw07_SlotOver.j2
        have ef : ((3 : Int) != 0) = true := rfl
        rw [ef, br_true]
        exact hK w hs.drop.drop
    · have e := put_long (which := which) (number := 1) (s := a) hcm m12 (by decide) (by omega)
      rw [e] at hs ⊢
      refine br_ne (fun _ => ?_) (fun hh => by simp at hh)
      unfold bondstorelaw07_SlotOver.j2
      rw [br_true]
      exact hK w hs.drop.drop
  refine br_dec (fun h1 => go _ (fun hf => by cases hf)) (fun h1 => ?_)
  refine br_dec (fun h2 => go _ (fun hf => by cases hf)) (fun h2 => ?_)
  exact go _ (fun _ => ⟨by omega, by omega⟩)

theorem Over_ok {a0 a3 : Int} {a1 a2 : ByteArray} (_ : (Lit.int .i64 a0).wf = true) (w1 : a1.size ≤ reachBytes) (w2 : a2.size ≤ reachBytes) (_ : (Lit.int .i64 a3).wf = true) :
    bondstorelaw07_SlotOver.u [.int .i64 a0, .string a1, .string a2, .int .i64 a3] (fun v w' => v = .bool true ∧ Below W.heap.size W w') W := by
  unfold bondstorelaw07_SlotOver.u
  exact Over_spec (K := fun v w' => v = .bool true ∧ Below W.heap.size W w') (St.start W) w1 w2 (fun w' h => ⟨rfl, h.below⟩)
end
end Go.Sep

/- The law SlotPuts. -/
namespace Go.Sep
open Go.Den Go.RowKit Go.Prog Go.Plat
set_option linter.unusedSimpArgs false
set_option linter.unusedVariables false

def jour : ByteArray := ⟨#[106, 111, 117, 114, 110, 97, 108]⟩

/-- What a put answers, and leaves. -/
theorem put_any {n : Nat} {D : Disk} {which number : Int} {s : ByteArray} (h : Calm n D) (h12 : 12 ≤ n) (h4096 : n ≤ 4096) (hnum : 1 ≤ number ∧ number ≤ 1152921504606846976) :
    Calm n (put D n which number s).1 ∧ (∀ j : Nat, j < n → (j < slotAt n which ∨ slotAt n which + pSize n ≤ j) → ((put D n which number s).1.read (j : Int)).1 = (D.read (j : Int)).1) ∧
    ((cnt s.size ≤ pSize n ∧ (put D n which number s).2 = 0 ∧ ∀ q : Nat, q < cnt s.size → ((put D n which number s).1.read (((slotAt n which : Nat) : Int) + q)).1 = leaf number q (part s q)) ∨
     (¬ cnt s.size ≤ pSize n ∧ (put D n which number s) = (D, 3))) := by
  by_cases hf : cnt s.size ≤ pSize n
  · obtain ⟨p1, p2, p3, p4⟩ := put_fits (which := which) (number := number) h h12 h4096 hnum hf
    exact ⟨p2, p4, .inl ⟨hf, p1, p3⟩⟩
  · have e := put_long (which := which) (number := number) (s := s) h h12 hnum (by omega)
    rw [e]
    exact ⟨h, fun _ _ _ => rfl, .inr ⟨hf, rfl⟩⟩

theorem leaf_not {number m j : Int} {i : Nat} {s d : ByteArray} (hnum : 1 ≤ number ∧ number ≤ 1152921504606846976) (hi : i < 4096) (hv : readV (leaf number i (part s i)).data.toList = some (m, j, d)) : m = number := by
  have hg : Good number i (part s i) := ⟨hnum.1, hnum.2, by omega, by omega, part_size s i⟩
  unfold leaf at hv
  rw [if_pos hg] at hv
  have := (readV_leaf hg).symm.trans hv
  cases this
  rfl

section
variable {W w : World} {L : List HP}

theorem Fits_spec {n m : Nat} {K : VK} (h : St W w L) (hm : m < 1099511627776000) (hK : ∀ w', St W w' L → K (.bool (decide (cnt m ≤ pSize n))) w') : slot_Plan_Fits (planCells n) m K w := by
  unfold slot_Plan_Fits
  refine mk_of h fun r w hs => ?_
  refine tick_of hs fun w hs => ?_
  refine br_dec (fun _ => ?_) (fun hh => by omega)
  refine ld_pt (k := 0) hs rfl rfl ?_
  simp only [nn_some, add_mk, Nat.zero_add, Nat.add_zero, Nat.reduceAdd, Nat.reduceMul, Option.isNone_some, Option.isNone_none, br_true, br_false, Bool.not_true, Bool.not_false, xI_eq, xB_eq, xS_eq, xP_eq, xL_eq, x0_eq, x2_eq, x3_eq, chk_eq, true_and, and_true, List.set_cons_zero, List.set_cons_succ, List.eraseIdx_cons_zero, List.eraseIdx_cons_succ]
  refine Count_spec (by omega) ?_
  simp only [nn_some, add_mk, Nat.zero_add, Nat.add_zero, Nat.reduceAdd, Nat.reduceMul, Option.isNone_some, Option.isNone_none, br_true, br_false, Bool.not_true, Bool.not_false, xI_eq, xB_eq, xS_eq, xP_eq, xL_eq, x0_eq, x2_eq, x3_eq, chk_eq, true_and, and_true, List.set_cons_zero, List.set_cons_succ, List.eraseIdx_cons_zero, List.eraseIdx_cons_succ]
  refine kp_one (k := 0) hs rfl rfl ?_
  have e : decide (((cnt m : Nat) : Int) ≤ ((pSize n : Nat) : Int)) = decide (cnt m ≤ pSize n) := by rw [decide_eq_decide]; omega
  rw [e]
  exact hK w hs.drop

theorem Puts_spec {n which number : Int} {a b : ByteArray} {K : VK} (h : St W w L) (ha : a.size ≤ reachBytes) (hb : b.size ≤ reachBytes) (hK : ∀ w', St W w' L → K (.bool true) w') : bondstorelaw07_SlotPuts n a b which number K w := by
  have ha' : a.size ≤ 140737488351232 := ha
  have hb' : b.size ≤ 140737488351232 := hb
  unfold bondstorelaw07_SlotPuts
  refine alive7_spec h fun w h => ?_
  simp only [nn_some, add_mk, Nat.zero_add, Nat.add_zero, Nat.reduceAdd, Nat.reduceMul, Option.isNone_some, Option.isNone_none, br_true, br_false, Bool.not_true, Bool.not_false, xI_eq, xB_eq, xS_eq, xP_eq, xL_eq, x0_eq, x2_eq, x3_eq, chk_eq, true_and, and_true, List.set_cons_zero, List.set_cons_succ, List.eraseIdx_cons_zero, List.eraseIdx_cons_succ]
  have go : ∀ c, (c = false → 12 ≤ n ∧ n ≤ 60 ∧ 1 ≤ number ∧ number ≤ 1099511627776) → bondstorelaw07_SlotPuts.j1 K n which number a b c w := fun c hc => by
    unfold bondstorelaw07_SlotPuts.j1
    refine br_of (fun _ => hK w h) (fun hf => ?_)
    obtain ⟨h12, h60, hn1, hn2⟩ := hc hf
    obtain ⟨m, rfl⟩ := Int.eq_ofNat_of_zero_le (show 0 ≤ n by omega)
    have m12 : 12 ≤ m := by omega
    have m4096 : m ≤ 4096 := by omega
    have hps : 2 + 2 * pSize m < m := by unfold pSize; omega
    refine Of_spec (n := m) h m12 m4096 fun w h => ?_
    simp only [nn_some, add_mk, Nat.zero_add, Nat.add_zero, Nat.reduceAdd, Nat.reduceMul, Option.isNone_some, Option.isNone_none, br_true, br_false, Bool.not_true, Bool.not_false, xI_eq, xB_eq, xS_eq, xP_eq, xL_eq, x0_eq, x2_eq, x3_eq, chk_eq, true_and, and_true, List.set_cons_zero, List.set_cons_succ, List.eraseIdx_cons_zero, List.eraseIdx_cons_succ]
    simp only [xA_eq]
    refine ⟨rfl, ?_⟩
    simp only [nn_some, add_mk, Nat.zero_add, Nat.add_zero, Nat.reduceAdd, Nat.reduceMul, Option.isNone_some, Option.isNone_none, br_true, br_false, Bool.not_true, Bool.not_false, xI_eq, xB_eq, xS_eq, xP_eq, xL_eq, x0_eq, x2_eq, x3_eq, chk_eq, true_and, and_true, List.set_cons_zero, List.set_cons_succ, List.eraseIdx_cons_zero, List.eraseIdx_cons_succ]
    refine mk_of h fun r w hs => ?_
    refine ⟨rfl, stN_pt (k := 0) hs rfl (Nat.le_of_ble_eq_true rfl) (by simp [Value.oneCell', planCells]) fun w hs => ?_⟩
    rw [over_all (by simp [planCells])] at hs
    simp only [nn_some, add_mk, Nat.zero_add, Nat.add_zero, Nat.reduceAdd, Nat.reduceMul, Option.isNone_some, Option.isNone_none, br_true, br_false, Bool.not_true, Bool.not_false, xI_eq, xB_eq, xS_eq, xP_eq, xL_eq, x0_eq, x2_eq, x3_eq, chk_eq, true_and, and_true, List.set_cons_zero, List.set_cons_succ, List.eraseIdx_cons_zero, List.eraseIdx_cons_succ] at hs
    refine New_spec hs fun d w hs => ?_
    simp only [nn_some, add_mk, Nat.zero_add, Nat.add_zero, Nat.reduceAdd, Nat.reduceMul, Option.isNone_some, Option.isNone_none, br_true, br_false, Bool.not_true, Bool.not_false, xI_eq, xB_eq, xS_eq, xP_eq, xL_eq, x0_eq, x2_eq, x3_eq, chk_eq, true_and, and_true, List.set_cons_zero, List.set_cons_succ, List.eraseIdx_cons_zero, List.eraseIdx_cons_succ]
    have hcm := calm_new m4096
    refine ld_pt (k := 1) hs rfl (v := .int .i64 (2 + 2 * pSize m : Nat)) rfl ?_
    simp only [nn_some, add_mk, Nat.zero_add, Nat.add_zero, Nat.reduceAdd, Nat.reduceMul, Option.isNone_some, Option.isNone_none, br_true, br_false, Bool.not_true, Bool.not_false, xI_eq, xB_eq, xS_eq, xP_eq, xL_eq, x0_eq, x2_eq, x3_eq, chk_eq, true_and, and_true, List.set_cons_zero, List.set_cons_succ, List.eraseIdx_cons_zero, List.eraseIdx_cons_succ]
    have hwl := write_len (Disk.new m) ((2 + 2 * pSize m : Nat) : Int) jour
    have hcm1 : Calm m ((Disk.new m).write ((2 + 2 * pSize m : Nat) : Int) jour).1 :=
      ⟨write_ok hcm.ok _ _ (by have := hcm.later; omega), Dk.write0_arm hcm.arm _ _, by have h0 : (Disk.new m).later.length = 0 := rfl; omega, by rw [hwl.1]; exact hcm.len⟩
    have hrd : ∀ j : Nat, j < m → (((Disk.new m).write ((2 + 2 * pSize m : Nat) : Int) jour).1.read (j : Int)).1 = if j = 2 + 2 * pSize m then Disk.pad jour else zeros 128 := fun j hj => by
      have h1 : ((Disk.new m).write ((2 + 2 * pSize m : Nat) : Int) jour).1.is (j : Int) := ⟨by omega, by rw [hcm1.len]; omega⟩
      have h2 : (Disk.new m).is ((2 + 2 * pSize m : Nat) : Int) := ⟨by omega, by rw [hcm.len]; omega⟩
      have h3 : (Disk.new m).is (j : Int) := ⟨by omega, by rw [hcm.len]; omega⟩
      have hz := new_read m4096 hj
      unfold Disk.read at hz ⊢
      rw [if_pos h3] at hz
      rw [if_pos h1, Dk.now_write0 hcm.arm]
      by_cases hjj : j = 2 + 2 * pSize m
      · rw [if_pos hjj, if_pos ⟨⟨h2, by decide⟩, by omega⟩]
      · rw [if_neg hjj, if_neg (fun hh => hjj (by omega))]
        exact hz
    refine Disk_Write_spec (k := 0) hs rfl hcm.ok fun w hs => ?_
    simp only [nn_some, add_mk, Nat.zero_add, Nat.add_zero, Nat.reduceAdd, Nat.reduceMul, Option.isNone_some, Option.isNone_none, br_true, br_false, Bool.not_true, Bool.not_false, xI_eq, xB_eq, xS_eq, xP_eq, xL_eq, x0_eq, x2_eq, x3_eq, chk_eq, true_and, and_true, List.set_cons_zero, List.set_cons_succ, List.eraseIdx_cons_zero, List.eraseIdx_cons_succ] at hs ⊢
    have hjo : (⟨#[106, 111, 117, 114, 110, 97, 108]⟩ : ByteArray) = jour := rfl
    rw [hjo] at hs
    generalize ((Disk.new m).write ((2 + 2 * pSize m : Nat) : Int) jour).1 = D1 at *
    refine tick_of hs fun w hs => ?_
    refine ldN_pt (k := 1) (xs := planCells m) hs rfl rfl (fun j v hj => by rw [Nat.zero_add]; exact hj) ?_
    refine ldN_pt (k := 1) (xs := planCells m) hs rfl rfl (fun j v hj => by rw [Nat.zero_add]; exact hj) ?_
    have en : IntKind.i64.wrap (number + 1) = number + 1 := wrap_id (by omega)
    rw [en]
    refine Put_spec (n := m) (k := 0) hs rfl hcm1.ok m12 m4096 (by have := hcm1.later; omega) ha fun w hs => ?_
    simp only [nn_some, add_mk, Nat.zero_add, Nat.add_zero, Nat.reduceAdd, Nat.reduceMul, Option.isNone_some, Option.isNone_none, br_true, br_false, Bool.not_true, Bool.not_false, xI_eq, xB_eq, xS_eq, xP_eq, xL_eq, x0_eq, x2_eq, x3_eq, chk_eq, true_and, and_true, List.set_cons_zero, List.set_cons_succ, List.eraseIdx_cons_zero, List.eraseIdx_cons_succ] at hs ⊢
    refine kp_pt (k := 1) hs rfl (fun j v hj => by rw [Nat.zero_add]; exact hj) ?_
    obtain ⟨p1, p2, p3⟩ := put_any (which := which) (number := number) (s := a) hcm1 m12 m4096 ⟨hn1, by omega⟩
    obtain ⟨q1, q2, q3⟩ := put_any (which := isum .i64 .xor which 1) (number := number + 1) (s := b) p1 m12 m4096 ⟨by omega, by omega⟩
    refine Put_spec (n := m) (k := 0) hs rfl p1.ok m12 m4096 (by have := p1.later; omega) hb fun w hs => ?_
    simp only [nn_some, add_mk, Nat.zero_add, Nat.add_zero, Nat.reduceAdd, Nat.reduceMul, Option.isNone_some, Option.isNone_none, br_true, br_false, Bool.not_true, Bool.not_false, xI_eq, xB_eq, xS_eq, xP_eq, xL_eq, x0_eq, x2_eq, x3_eq, chk_eq, true_and, and_true, List.set_cons_zero, List.set_cons_succ, List.eraseIdx_cons_zero, List.eraseIdx_cons_succ] at hs ⊢
    have hin := slotAt_in m12 which
    have hin2 := slotAt_in m12 (isum .i64 .xor which 1)
    have hap := slot_apart (n := m) (isum .i64 .xor which 1) which (by rw [low_flip]; have := low_in which; omega)
    have hslot : ∀ v, slotAt m v + pSize m ≤ 2 + 2 * pSize m := fun v => by unfold slotAt; split <;> omega
    have hsl1 := hslot which
    have hsl2 := hslot (isum .i64 .xor which 1)
    have hcp1 := cnt_pos a.size
    have hcp2 := cnt_pos b.size
    have e0 : ∀ v : Nat, ((v : Nat) : Int) + ((0 : Nat) : Int) = ((v : Nat) : Int) := fun v => by omega
    -- what the gets tell
    have ga : (cnt a.size ≤ pSize m ∧ (put D1 m which number a).2 = 0 ∧ get (put (put D1 m which number a).1 m (isum .i64 .xor which 1) (number + 1) b).1 m which number a.size = some a.data.toList) ∨
        (¬ cnt a.size ≤ pSize m ∧ (put D1 m which number a).2 = 3 ∧ get (put (put D1 m which number a).1 m (isum .i64 .xor which 1) (number + 1) b).1 m which number a.size = none) := by
      rcases p3 with ⟨f1, f2, f3⟩ | ⟨f1, f2⟩
      · refine .inl ⟨f1, f2, get_all q1.len m12 m4096 ⟨hn1, by omega⟩ f1 fun q hq => ?_⟩
        have := q2 (slotAt m which + q) (by omega) (by omega)
        rw [show (((slotAt m which : Nat) : Int) + (q : Int)) = ((slotAt m which + q : Nat) : Int) from by omega, this, show ((slotAt m which + q : Nat) : Int) = ((slotAt m which : Nat) : Int) + (q : Int) from by omega]
        exact f3 q hq
      · refine .inr ⟨f1, by rw [f2], get_other fun x j dd hv => ?_⟩
        rw [e0, q2 _ (by omega) (by omega), f2, hrd _ (by omega), if_neg (by omega), readV_zeros] at hv
        cases hv
    have gb : (cnt b.size ≤ pSize m ∧ (put (put D1 m which number a).1 m (isum .i64 .xor which 1) (number + 1) b).2 = 0 ∧ get (put (put D1 m which number a).1 m (isum .i64 .xor which 1) (number + 1) b).1 m (isum .i64 .xor which 1) (number + 1) b.size = some b.data.toList) ∨
        (¬ cnt b.size ≤ pSize m ∧ (put (put D1 m which number a).1 m (isum .i64 .xor which 1) (number + 1) b).2 = 3 ∧ get (put (put D1 m which number a).1 m (isum .i64 .xor which 1) (number + 1) b).1 m (isum .i64 .xor which 1) (number + 1) b.size = none) := by
      rcases q3 with ⟨f1, f2, f3⟩ | ⟨f1, f2⟩
      · exact .inl ⟨f1, f2, get_all q1.len m12 m4096 ⟨by omega, by omega⟩ f1 f3⟩
      · refine .inr ⟨f1, by rw [f2], get_other fun x j dd hv => ?_⟩
        rw [e0, f2, p2 _ (by omega) (by omega), hrd _ (by omega), if_neg (by omega), readV_zeros] at hv
        cases hv
    have gc : get (put (put D1 m which number a).1 m (isum .i64 .xor which 1) (number + 1) b).1 m which (number + 1) a.size = none := get_other fun x j dd hv => by
      rw [e0, q2 _ (by omega) (by omega)] at hv
      rcases p3 with ⟨f1, f2, f3⟩ | ⟨f1, f2⟩
      · have := f3 0 (by omega)
        rw [e0] at this
        rw [this] at hv
        have := leaf_not ⟨hn1, by omega⟩ (by decide) hv
        omega
      · rw [f2, hrd _ (by omega), if_neg (by omega), readV_zeros] at hv
        cases hv
    have gj : ((put (put D1 m which number a).1 m (isum .i64 .xor which 1) (number + 1) b).1.read ((2 + 2 * pSize m : Nat) : Int)).1 = Disk.pad jour := by
      rw [q2 _ (by omega) (by omega), p2 _ (by omega) (by omega), hrd _ (by omega), if_pos rfl]
    generalize (put D1 m which number a).2 = ea at *
    generalize (put (put D1 m which number a).1 m (isum .i64 .xor which 1) (number + 1) b).2 = eb at *
    generalize (put (put D1 m which number a).1 m (isum .i64 .xor which 1) (number + 1) b).1 = D3 at *
    have tail : ∀ w, St W w (disk d D3 :: pt r (planCells m) :: L) → bondstorelaw07_SlotPuts.j2 K r (some ⟨d, 0, none⟩) which number a w := fun w hs => by
      unfold bondstorelaw07_SlotPuts.j2
      simp only [nn_some, add_mk, Nat.zero_add, Nat.add_zero, Nat.reduceAdd, Nat.reduceMul, Option.isNone_some, Option.isNone_none, br_true, br_false, Bool.not_true, Bool.not_false, xI_eq, xB_eq, xS_eq, xP_eq, xL_eq, x0_eq, x2_eq, x3_eq, chk_eq, true_and, and_true, List.set_cons_zero, List.set_cons_succ, List.eraseIdx_cons_zero, List.eraseIdx_cons_succ]
      refine ld_pt (k := 1) hs rfl (v := .int .i64 (2 + 2 * pSize m : Nat)) rfl ?_
      simp only [nn_some, add_mk, Nat.zero_add, Nat.add_zero, Nat.reduceAdd, Nat.reduceMul, Option.isNone_some, Option.isNone_none, br_true, br_false, Bool.not_true, Bool.not_false, xI_eq, xB_eq, xS_eq, xP_eq, xL_eq, x0_eq, x2_eq, x3_eq, chk_eq, true_and, and_true, List.set_cons_zero, List.set_cons_succ, List.eraseIdx_cons_zero, List.eraseIdx_cons_succ]
      refine Disk_Read_spec (k := 0) hs rfl q1.ok ?_
      rw [gj, en]
      simp only [nn_some, add_mk, Nat.zero_add, Nat.add_zero, Nat.reduceAdd, Nat.reduceMul, Option.isNone_some, Option.isNone_none, br_true, br_false, Bool.not_true, Bool.not_false, xI_eq, xB_eq, xS_eq, xP_eq, xL_eq, x0_eq, x2_eq, x3_eq, chk_eq, true_and, and_true, List.set_cons_zero, List.set_cons_succ, List.eraseIdx_cons_zero, List.eraseIdx_cons_succ]
      refine ldN_pt (k := 1) (xs := planCells m) hs rfl rfl (fun j v hj => by rw [Nat.zero_add]; exact hj) ?_
      refine Get_spec (n := m) (k := 0) hs rfl q1.ok m12 m4096 fun w hs => ?_
      rw [gc]
      unfold takeRes
      simp only [nn_some, add_mk, Nat.zero_add, Nat.add_zero, Nat.reduceAdd, Nat.reduceMul, Option.isNone_some, Option.isNone_none, br_true, br_false, Bool.not_true, Bool.not_false, xI_eq, xB_eq, xS_eq, xP_eq, xL_eq, x0_eq, x2_eq, x3_eq, chk_eq, true_and, and_true, List.set_cons_zero, List.set_cons_succ, List.eraseIdx_cons_zero, List.eraseIdx_cons_succ]
      refine ldN_pt (k := 1) (xs := planCells m) hs rfl rfl (fun j v hj => by rw [Nat.zero_add]; exact hj) ?_
      unfold slot_Plan_Put
      refine mk_of hs fun r5 w hs => ?_
      simp only [nn_some, add_mk, Nat.zero_add, Nat.add_zero, Nat.reduceAdd, Nat.reduceMul, Option.isNone_some, Option.isNone_none, br_true, br_false, Bool.not_true, Bool.not_false, xI_eq, xB_eq, xS_eq, xP_eq, xL_eq, x0_eq, x2_eq, x3_eq, chk_eq, true_and, and_true, List.set_cons_zero, List.set_cons_succ, List.eraseIdx_cons_zero, List.eraseIdx_cons_succ]
      refine ldN_pt (k := 2) (xs := planCells m) hs rfl rfl (fun j v hj => by rw [Nat.zero_add]; exact hj) ?_
      unfold slot_Plan_Get
      refine mk_of hs fun r6 w hs => ?_
      simp only [nn_some, add_mk, Nat.zero_add, Nat.add_zero, Nat.reduceAdd, Nat.reduceMul, Option.isNone_some, Option.isNone_none, br_true, br_false, Bool.not_true, Bool.not_false, xI_eq, xB_eq, xS_eq, xP_eq, xL_eq, x0_eq, x2_eq, x3_eq, chk_eq, true_and, and_true, List.set_cons_zero, List.set_cons_succ, List.eraseIdx_cons_zero, List.eraseIdx_cons_succ]
      unfold slStr
      dsimp only
      refine ⟨by decide +kernel, ?_⟩
      have ej : strEq ((Disk.pad jour).extract 0 (7 : Int).toNat) (⟨#[106, 111, 117, 114, 110, 97, 108]⟩ : ByteArray) = true := by
        rw [strEq_iff]; decide +kernel
      have ee : strEq ByteArray.empty (⟨#[]⟩ : ByteArray) = true := by rw [strEq_iff]; exact decide_eq_true rfl
      rw [ej, ee, br_true, br_true]
      rw [beq_self_eq_true, br_true]
      exact hK w hs.drop.drop.drop.drop
    refine ldN_pt (k := 1) (xs := planCells m) hs rfl rfl (fun j v hj => by rw [Nat.zero_add]; exact hj) ?_
    refine Get_spec (n := m) (k := 0) hs rfl q1.ok m12 m4096 fun w hs => ?_
    have s3 : ((3 : Int) == 0) = false := rfl
    rcases ga with ⟨fa, rfl, ga⟩ | ⟨fa, rfl, ga⟩ <;> rcases gb with ⟨fb, rfl, gb⟩ | ⟨fb, rfl, gb⟩ <;>
    ( rw [ga]
      unfold takeRes
      simp only [nn_some, add_mk, Nat.zero_add, Nat.add_zero, Nat.reduceAdd, Nat.reduceMul, Option.isNone_some, Option.isNone_none, br_true, br_false, Bool.not_true, Bool.not_false, xI_eq, xB_eq, xS_eq, xP_eq, xL_eq, x0_eq, x2_eq, x3_eq, chk_eq, true_and, and_true, List.set_cons_zero, List.set_cons_succ, List.eraseIdx_cons_zero, List.eraseIdx_cons_succ]
      refine ldN_pt (k := 1) (xs := planCells m) hs rfl rfl (fun j v hj => by rw [Nat.zero_add]; exact hj) ?_
      refine Get_spec (n := m) (k := 0) hs rfl q1.ok m12 m4096 fun w hs => ?_
      rw [gb]
      unfold takeRes
      simp only [nn_some, add_mk, Nat.zero_add, Nat.add_zero, Nat.reduceAdd, Nat.reduceMul, Option.isNone_some, Option.isNone_none, br_true, br_false, Bool.not_true, Bool.not_false, xI_eq, xB_eq, xS_eq, xP_eq, xL_eq, x0_eq, x2_eq, x3_eq, chk_eq, true_and, and_true, List.set_cons_zero, List.set_cons_succ, List.eraseIdx_cons_zero, List.eraseIdx_cons_succ]
      refine ldN_pt (k := 1) (xs := planCells m) hs rfl rfl (fun j v hj => by rw [Nat.zero_add]; exact hj) ?_
      refine Fits_spec hs (by omega) fun w hs => ?_
      simp only [nn_some, add_mk, Nat.zero_add, Nat.add_zero, Nat.reduceAdd, Nat.reduceMul, Option.isNone_some, Option.isNone_none, br_true, br_false, Bool.not_true, Bool.not_false, xI_eq, xB_eq, xS_eq, xP_eq, xL_eq, x0_eq, x2_eq, x3_eq, chk_eq, true_and, and_true, List.set_cons_zero, List.set_cons_succ, List.eraseIdx_cons_zero, List.eraseIdx_cons_succ]
      first | rw [decide_eq_true fa] | rw [decide_eq_false fa]
      simp only [beq_self_eq_true, s3, Bool.not_true, br_false, br_true, Bool.not_false]
      refine ldN_pt (k := 1) (xs := planCells m) hs rfl rfl (fun j v hj => by rw [Nat.zero_add]; exact hj) ?_
      refine Fits_spec hs (by omega) fun w hs => ?_
      simp only [nn_some, add_mk, Nat.zero_add, Nat.add_zero, Nat.reduceAdd, Nat.reduceMul, Option.isNone_some, Option.isNone_none, br_true, br_false, Bool.not_true, Bool.not_false, xI_eq, xB_eq, xS_eq, xP_eq, xL_eq, x0_eq, x2_eq, x3_eq, chk_eq, true_and, and_true, List.set_cons_zero, List.set_cons_succ, List.eraseIdx_cons_zero, List.eraseIdx_cons_succ]
      first | rw [decide_eq_true fb] | rw [decide_eq_false fb]
      simp only [beq_self_eq_true, s3, Bool.not_true, br_false, br_true, Bool.not_false, bs_data, strEq_iff, decide_eq_true, bne_self_eq_false]
      exact tail w hs)
  refine br_dec (fun h1 => go _ (fun hf => by cases hf)) (fun h1 => ?_)
  refine br_dec (fun h2 => go _ (fun hf => by cases hf)) (fun h2 => ?_)
  refine br_dec (fun h3 => go _ (fun hf => by cases hf)) (fun h3 => ?_)
  refine br_dec (fun h4 => go _ (fun hf => by cases hf)) (fun h4 => ?_)
  exact go _ (fun hf => ⟨by omega, by omega, by omega, by have := of_decide_eq_false hf; omega⟩)

theorem Puts_ok {a0 a3 a4 : Int} {a1 a2 : ByteArray} (_ : (Lit.int .i64 a0).wf = true) (w1 : a1.size ≤ reachBytes) (w2 : a2.size ≤ reachBytes) (_ : (Lit.int .i64 a3).wf = true) (_ : (Lit.int .i64 a4).wf = true) :
    bondstorelaw07_SlotPuts.u [.int .i64 a0, .string a1, .string a2, .int .i64 a3, .int .i64 a4] (fun v w' => v = .bool true ∧ Below W.heap.size W w') W := by
  unfold bondstorelaw07_SlotPuts.u
  exact Puts_spec (K := fun v w' => v = .bool true ∧ Below W.heap.size W w') (St.start W) w1 w2 (fun w' h => ⟨rfl, h.below⟩)
end
end Go.Sep
