/- Layer 7: slots. -/
import Derived.Test.YtidhimamegfdaaaDoorSt7
namespace Go.Sep
open Go.Den Go.RowKit Go.Prog Go.Plat
set_option linter.unusedSimpArgs false
set_option linter.unusedVariables false

/-- The lowest bit of a number. -/
def low (w : Int) : Int := isum .i64 .and w 1

theorem low_nat (w : Int) : low w = (((BitVec.ofInt 64 w).toNat % 2 : Nat) : Int) := by
  have e2 : (BitVec.ofInt 64 1).toNat = 1 := rfl
  show IntKind.i64.wrap (((BitVec.ofInt 64 w &&& BitVec.ofInt 64 1).toNat : Nat) : Int) = _
  rw [BitVec.toNat_and, e2, Nat.and_one_is_mod, wrap_id (by omega)]

theorem low_in (w : Int) : low w = 0 ∨ low w = 1 := by rw [low_nat]; omega

theorem low_flip (w : Int) : low (isum .i64 .xor w 1) = 1 - low w := by
  rw [low_nat, low_nat]
  have e1 : (BitVec.ofInt 64 (isum .i64 .xor w 1)).toNat = (BitVec.ofInt 64 w).toNat ^^^ 1 := by
    have e2 : (BitVec.ofInt 64 1).toNat = 1 := rfl
    show (BitVec.ofInt 64 (IntKind.i64.wrap (((BitVec.ofInt 64 w ^^^ BitVec.ofInt 64 1).toNat : Nat) : Int))).toNat = _
    rw [ofInt_wrap64, BitVec.ofInt_natCast, BitVec.ofNat_toNat, BitVec.setWidth_eq, BitVec.toNat_xor, e2]
  rw [e1]
  have := Nat.xor_mod_two_pow (a := (BitVec.ofInt 64 w).toNat) (b := 1) (n := 1)
  rw [Nat.pow_one] at this
  rw [this]
  rcases Nat.mod_two_eq_zero_or_one (BitVec.ofInt 64 w).toNat with h | h
  · rw [h]; rfl
  · rw [h]; rfl

def pSize (n : Nat) : Nat := (n - 2) * 2 / 5
def planCells (n : Nat) : List Value := [.int .i64 2, .int .i64 (2 + pSize n : Nat), .int .i64 (pSize n : Nat), .int .i64 (2 + 2 * pSize n : Nat), .int .i64 n]
def slotAt (n : Nat) (which : Int) : Nat := if low which = 0 then 2 else 2 + pSize n

theorem slotAt_in {n : Nat} (h : 12 ≤ n) (w : Int) : 2 ≤ slotAt n w ∧ slotAt n w + pSize n ≤ n ∧ 4 ≤ pSize n := by
  unfold slotAt pSize; split <;> omega
theorem slot_apart {n : Nat} (w v : Int) (h : low w ≠ low v) : slotAt n w + pSize n ≤ slotAt n v ∨ slotAt n v + pSize n ≤ slotAt n w := by
  unfold slotAt
  rcases low_in w with a | a <;> rcases low_in v with b | b <;> rw [a, b] at h ⊢ <;> simp at h ⊢

def put (D : Disk) (n : Nat) (which number : Int) (s : ByteArray) : Disk × Int :=
  if (lay D (slotAt n which) ((slotAt n which + pSize n : Nat) : Int) number s).2 ≠ 0 then lay D (slotAt n which) ((slotAt n which + pSize n : Nat) : Int) number s
  else (lay D (slotAt n which) ((slotAt n which + pSize n : Nat) : Int) number s).1.sync
def get (D : Disk) (n : Nat) (which number size : Int) : Option (List UInt8) := take D (slotAt n which) ((slotAt n which + pSize n : Nat) : Int) number size

section
variable {W w : World} {L : List HP} {k d : Nat} {D : Disk}

theorem Of_spec {n : Nat} {K : VK} (h : St W w L) (h12 : 12 ≤ n) (h4096 : n ≤ 4096) (hK : ∀ w', St W w' L → K (.tuple ⟨[.agg ⟨planCells n⟩, .int .i64 0]⟩) w') : slot_Of n K w := by
  unfold slot_Of
  refine mk_of h fun r w hs => ?_
  have e1 : decide ((n : Int) < 12) = false := decide_eq_false (by omega)
  have e2 : decide ((n : Int) > 4096) = false := decide_eq_false (by omega)
  rw [e1, e2]
  unfold slot_Of.j1
  have a1 : IntKind.i64.wrap ((n : Int) - 2) = ((n - 2 : Nat) : Int) := by rw [wrap_id (by omega)]; omega
  have a2 : IntKind.i64.wrap (((n - 2 : Nat) : Int) * 2) = (((n - 2) * 2 : Nat) : Int) := by rw [wrap_id (by omega)]; omega
  have a3 : (((n - 2) * 2 : Nat) : Int).tdiv 5 = ((pSize n : Nat) : Int) := by rw [Int.tdiv_eq_ediv_of_nonneg (by omega)]; rfl
  have hp : pSize n ≤ 4096 := by unfold pSize; omega
  have a4 : IntKind.i64.wrap ((pSize n : Nat) : Int) = ((pSize n : Nat) : Int) := wrap_id (by omega)
  have a5 : IntKind.i64.wrap (2 + ((pSize n : Nat) : Int)) = ((2 + pSize n : Nat) : Int) := by rw [wrap_id (by omega)]; omega
  have a6 : IntKind.i64.wrap (2 * ((pSize n : Nat) : Int)) = ((2 * pSize n : Nat) : Int) := by rw [wrap_id (by omega)]; omega
  have a7 : IntKind.i64.wrap (2 + ((2 * pSize n : Nat) : Int)) = ((2 + 2 * pSize n : Nat) : Int) := by rw [wrap_id (by omega)]; omega
  rw [a1, a2, a3, a4, a5, a6, a7]
  simp only [nn_some, add_mk, Nat.zero_add, Nat.add_zero, Nat.reduceAdd, Nat.reduceMul, Option.isNone_some, Option.isNone_none, br_true, br_false, Bool.not_true, Bool.not_false, xI_eq, xB_eq, xS_eq, xP_eq, xL_eq, x0_eq, x2_eq, x3_eq, chk_eq, true_and, and_true, List.set_cons_zero, List.set_cons_succ, List.eraseIdx_cons_zero, List.eraseIdx_cons_succ]
  refine ⟨by decide, ?_⟩
  refine stN_pt (k := 0) hs rfl (Nat.le_of_ble_eq_true rfl) (by simp [Value.oneCell']) fun w hs => ?_
  rw [over_all (by simp)] at hs
  refine ldN_pt (k := 0) (xs := planCells n) hs rfl rfl (fun j v hj => by rw [Nat.zero_add]; exact hj) ?_
  exact hK w hs.drop

theorem At_spec {n : Nat} {which : Int} {K : VK} (h : St W w L) (hK : ∀ w', St W w' L → K (.int .i64 (slotAt n which : Nat)) w') : slot_Plan_At (planCells n) which K w := by
  unfold slot_Plan_At
  refine mk_of h fun r w hs => ?_
  simp only [nn_some, add_mk, Nat.zero_add, Nat.add_zero, Nat.reduceAdd, Nat.reduceMul, Option.isNone_some, Option.isNone_none, br_true, br_false, Bool.not_true, Bool.not_false, xI_eq, xB_eq, xS_eq, xP_eq, xL_eq, x0_eq, x2_eq, x3_eq, chk_eq, true_and, and_true, List.set_cons_zero, List.set_cons_succ, List.eraseIdx_cons_zero, List.eraseIdx_cons_succ]
  refine ld_pt (k := 0) hs rfl rfl ?_
  simp only [nn_some, add_mk, Nat.zero_add, Nat.add_zero, Nat.reduceAdd, Nat.reduceMul, Option.isNone_some, Option.isNone_none, br_true, br_false, Bool.not_true, Bool.not_false, xI_eq, xB_eq, xS_eq, xP_eq, xL_eq, x0_eq, x2_eq, x3_eq, chk_eq, true_and, and_true, List.set_cons_zero, List.set_cons_succ, List.eraseIdx_cons_zero, List.eraseIdx_cons_succ]
  refine ld_pt (k := 0) hs rfl rfl ?_
  simp only [nn_some, add_mk, Nat.zero_add, Nat.add_zero, Nat.reduceAdd, Nat.reduceMul, Option.isNone_some, Option.isNone_none, br_true, br_false, Bool.not_true, Bool.not_false, xI_eq, xB_eq, xS_eq, xP_eq, xL_eq, x0_eq, x2_eq, x3_eq, chk_eq, true_and, and_true, List.set_cons_zero, List.set_cons_succ, List.eraseIdx_cons_zero, List.eraseIdx_cons_succ]
  have hl := low_in which
  have hh := hK w hs.drop
  unfold slotAt at hh
  show ixArr _ 2 (low which) _ w
  rcases hl with h0 | h0
  · rw [if_pos h0] at hh
    rw [h0]
    refine ⟨_, ⟨by decide, by decide, rfl⟩, ?_⟩
    simp only [nn_some, add_mk, Nat.zero_add, Nat.add_zero, Nat.reduceAdd, Nat.reduceMul, Option.isNone_some, Option.isNone_none, br_true, br_false, Bool.not_true, Bool.not_false, xI_eq, xB_eq, xS_eq, xP_eq, xL_eq, x0_eq, x2_eq, x3_eq, chk_eq, true_and, and_true, List.set_cons_zero, List.set_cons_succ, List.eraseIdx_cons_zero, List.eraseIdx_cons_succ]
    exact hh
  · rw [if_neg (by omega)] at hh
    rw [h0]
    refine ⟨_, ⟨by decide, by decide, rfl⟩, ?_⟩
    simp only [nn_some, add_mk, Nat.zero_add, Nat.add_zero, Nat.reduceAdd, Nat.reduceMul, Option.isNone_some, Option.isNone_none, br_true, br_false, Bool.not_true, Bool.not_false, xI_eq, xB_eq, xS_eq, xP_eq, xL_eq, x0_eq, x2_eq, x3_eq, chk_eq, true_and, and_true, List.set_cons_zero, List.set_cons_succ, List.eraseIdx_cons_zero, List.eraseIdx_cons_succ]
    exact hh

theorem Put_spec {n : Nat} {which number : Int} {s : ByteArray} {K : VK} (h : St W w L) (hk : L[k]? = some (disk d D)) (hok : D.Ok) (h12 : 12 ≤ n) (h4096 : n ≤ 4096) (hl : D.later.length + 5000 < 1099511627776) (hs : s.size ≤ reachBytes)
    (hK : ∀ w', St W w' (L.set k (disk d (put D n which number s).1)) → K (.int .i64 (put D n which number s).2) w') : slot_Plan_Put (planCells n) (some ⟨d, 0, none⟩) which number s K w := by
  have hin := slotAt_in h12 which
  unfold slot_Plan_Put
  refine mk_of h fun r w hs' => ?_
  have hsz := hs
  simp only [nn_some, add_mk, Nat.zero_add, Nat.add_zero, Nat.reduceAdd, Nat.reduceMul, Option.isNone_some, Option.isNone_none, br_true, br_false, Bool.not_true, Bool.not_false, xI_eq, xB_eq, xS_eq, xP_eq, xL_eq, x0_eq, x2_eq, x3_eq, chk_eq, true_and, and_true, List.set_cons_zero, List.set_cons_succ, List.eraseIdx_cons_zero, List.eraseIdx_cons_succ]
  refine tick_of hs' fun w hs => ?_
  refine ldN_pt (k := 0) (xs := planCells n) hs rfl rfl (fun j v hj => by rw [Nat.zero_add]; exact hj) ?_
  refine ldN_pt (k := 0) (xs := planCells n) hs rfl rfl (fun j v hj => by rw [Nat.zero_add]; exact hj) ?_
  refine ld_pt (k := 0) hs rfl rfl ?_
  simp only [nn_some, add_mk, Nat.zero_add, Nat.add_zero, Nat.reduceAdd, Nat.reduceMul, Option.isNone_some, Option.isNone_none, br_true, br_false, Bool.not_true, Bool.not_false, xI_eq, xB_eq, xS_eq, xP_eq, xL_eq, x0_eq, x2_eq, x3_eq, chk_eq, true_and, and_true, List.set_cons_zero, List.set_cons_succ, List.eraseIdx_cons_zero, List.eraseIdx_cons_succ]
  refine At_spec hs fun w hs => ?_
  simp only [nn_some, add_mk, Nat.zero_add, Nat.add_zero, Nat.reduceAdd, Nat.reduceMul, Option.isNone_some, Option.isNone_none, br_true, br_false, Bool.not_true, Bool.not_false, xI_eq, xB_eq, xS_eq, xP_eq, xL_eq, x0_eq, x2_eq, x3_eq, chk_eq, true_and, and_true, List.set_cons_zero, List.set_cons_succ, List.eraseIdx_cons_zero, List.eraseIdx_cons_succ]
  refine kp_one (k := 0) hs rfl rfl ?_
  refine kp_pt (k := 0) hs rfl (fun j v hj => by rw [Nat.zero_add]; exact hj) ?_
  refine At_spec hs fun w hs => ?_
  simp only [nn_some, add_mk, Nat.zero_add, Nat.add_zero, Nat.reduceAdd, Nat.reduceMul, Option.isNone_some, Option.isNone_none, br_true, br_false, Bool.not_true, Bool.not_false, xI_eq, xB_eq, xS_eq, xP_eq, xL_eq, x0_eq, x2_eq, x3_eq, chk_eq, true_and, and_true, List.set_cons_zero, List.set_cons_succ, List.eraseIdx_cons_zero, List.eraseIdx_cons_succ]
  refine kp_one (k := 0) hs rfl rfl ?_
  have ew : IntKind.i64.wrap (((slotAt n which : Nat) : Int) + ((pSize n : Nat) : Int)) = ((slotAt n which + pSize n : Nat) : Int) := by rw [wrap_id (by omega)]; omega
  rw [ew]
  have hk2 : (pt r (planCells n) :: L)[k + 1]? = some (disk d D) := by rw [List.getElem?_cons_succ]; exact hk
  refine Lay_spec (k := k + 1) hs hk2 hok (by omega) hsz fun w hs => ?_
  rw [List.set_cons_succ] at hs
  simp only [nn_some, add_mk, Nat.zero_add, Nat.add_zero, Nat.reduceAdd, Nat.reduceMul, Option.isNone_some, Option.isNone_none, br_true, br_false, Bool.not_true, Bool.not_false, xI_eq, xB_eq, xS_eq, xP_eq, xL_eq, x0_eq, x2_eq, x3_eq, chk_eq, true_and, and_true, List.set_cons_zero, List.set_cons_succ, List.eraseIdx_cons_zero, List.eraseIdx_cons_succ]
  refine kp_one (k := 0) hs rfl rfl ?_
  unfold put at hK
  have hlok : (lay D (slotAt n which) ((slotAt n which + pSize n : Nat) : Int) number s).1.Ok ∨ (lay D (slotAt n which) ((slotAt n which + pSize n : Nat) : Int) number s).2 ≠ 0 := by
    by_cases hc : cnt s.size ≤ 4097
    · exact .inl (lay_ok hok (by omega)).1
    · refine .inr ?_
      unfold lay
      split
      · simp
      · rw [if_pos (by omega)]; simp
  refine br_ne (fun hne => ?_) (fun h0 => ?_)
  · rw [if_pos hne] at hK
    exact hK w hs.drop
  · rw [if_neg (fun hh => hh h0)] at hK
    refine Disk_Sync_spec (k := k + 1) hs (by rw [List.getElem?_cons_succ]; exact set_get hk) (hlok.resolve_right (fun hh => hh h0)) fun w hs => ?_
    rw [List.set_cons_succ, List.set_set] at hs
    simp only [nn_some, add_mk, Nat.zero_add, Nat.add_zero, Nat.reduceAdd, Nat.reduceMul, Option.isNone_some, Option.isNone_none, br_true, br_false, Bool.not_true, Bool.not_false, xI_eq, xB_eq, xS_eq, xP_eq, xL_eq, x0_eq, x2_eq, x3_eq, chk_eq, true_and, and_true, List.set_cons_zero, List.set_cons_succ, List.eraseIdx_cons_zero, List.eraseIdx_cons_succ]
    exact hK w hs.drop

theorem Get_spec {n : Nat} {which number size : Int} {K : VK} (h : St W w L) (hk : L[k]? = some (disk d D)) (hok : D.Ok) (h12 : 12 ≤ n) (h4096 : n ≤ 4096)
    (hK : ∀ w', St W w' L → K (takeRes (get D n which number size)) w') : slot_Plan_Get (planCells n) (some ⟨d, 0, none⟩) which number size K w := by
  have hin := slotAt_in h12 which
  unfold slot_Plan_Get
  refine mk_of h fun r w hs' => ?_
  simp only [nn_some, add_mk, Nat.zero_add, Nat.add_zero, Nat.reduceAdd, Nat.reduceMul, Option.isNone_some, Option.isNone_none, br_true, br_false, Bool.not_true, Bool.not_false, xI_eq, xB_eq, xS_eq, xP_eq, xL_eq, x0_eq, x2_eq, x3_eq, chk_eq, true_and, and_true, List.set_cons_zero, List.set_cons_succ, List.eraseIdx_cons_zero, List.eraseIdx_cons_succ]
  refine tick_of hs' fun w hs => ?_
  refine ldN_pt (k := 0) (xs := planCells n) hs rfl rfl (fun j v hj => by rw [Nat.zero_add]; exact hj) ?_
  refine ldN_pt (k := 0) (xs := planCells n) hs rfl rfl (fun j v hj => by rw [Nat.zero_add]; exact hj) ?_
  refine ld_pt (k := 0) hs rfl rfl ?_
  simp only [nn_some, add_mk, Nat.zero_add, Nat.add_zero, Nat.reduceAdd, Nat.reduceMul, Option.isNone_some, Option.isNone_none, br_true, br_false, Bool.not_true, Bool.not_false, xI_eq, xB_eq, xS_eq, xP_eq, xL_eq, x0_eq, x2_eq, x3_eq, chk_eq, true_and, and_true, List.set_cons_zero, List.set_cons_succ, List.eraseIdx_cons_zero, List.eraseIdx_cons_succ]
  refine At_spec hs fun w hs => ?_
  simp only [nn_some, add_mk, Nat.zero_add, Nat.add_zero, Nat.reduceAdd, Nat.reduceMul, Option.isNone_some, Option.isNone_none, br_true, br_false, Bool.not_true, Bool.not_false, xI_eq, xB_eq, xS_eq, xP_eq, xL_eq, x0_eq, x2_eq, x3_eq, chk_eq, true_and, and_true, List.set_cons_zero, List.set_cons_succ, List.eraseIdx_cons_zero, List.eraseIdx_cons_succ]
  refine kp_one (k := 0) hs rfl rfl ?_
  refine kp_pt (k := 0) hs rfl (fun j v hj => by rw [Nat.zero_add]; exact hj) ?_
  refine At_spec hs fun w hs => ?_
  simp only [nn_some, add_mk, Nat.zero_add, Nat.add_zero, Nat.reduceAdd, Nat.reduceMul, Option.isNone_some, Option.isNone_none, br_true, br_false, Bool.not_true, Bool.not_false, xI_eq, xB_eq, xS_eq, xP_eq, xL_eq, x0_eq, x2_eq, x3_eq, chk_eq, true_and, and_true, List.set_cons_zero, List.set_cons_succ, List.eraseIdx_cons_zero, List.eraseIdx_cons_succ]
  refine kp_one (k := 0) hs rfl rfl ?_
  have ew : IntKind.i64.wrap (((slotAt n which : Nat) : Int) + ((pSize n : Nat) : Int)) = ((slotAt n which + pSize n : Nat) : Int) := by rw [wrap_id (by omega)]; omega
  rw [ew]
  refine Take_spec (k := k + 1) hs (by rw [List.getElem?_cons_succ]; exact hk) hok fun w hs => ?_
  unfold get at hK
  cases hg : take D (slotAt n which) ((slotAt n which + pSize n : Nat) : Int) number size with
  | none =>
    rw [hg] at hK
    unfold takeRes at hK ⊢
    simp only [nn_some, add_mk, Nat.zero_add, Nat.add_zero, Nat.reduceAdd, Nat.reduceMul, Option.isNone_some, Option.isNone_none, br_true, br_false, Bool.not_true, Bool.not_false, xI_eq, xB_eq, xS_eq, xP_eq, xL_eq, x0_eq, x2_eq, x3_eq, chk_eq, true_and, and_true, List.set_cons_zero, List.set_cons_succ, List.eraseIdx_cons_zero, List.eraseIdx_cons_succ]
    refine kp_one (k := 0) hs rfl rfl ?_
    exact hK w hs.drop
  | some l =>
    rw [hg] at hK
    unfold takeRes at hK ⊢
    simp only [nn_some, add_mk, Nat.zero_add, Nat.add_zero, Nat.reduceAdd, Nat.reduceMul, Option.isNone_some, Option.isNone_none, br_true, br_false, Bool.not_true, Bool.not_false, xI_eq, xB_eq, xS_eq, xP_eq, xL_eq, x0_eq, x2_eq, x3_eq, chk_eq, true_and, and_true, List.set_cons_zero, List.set_cons_succ, List.eraseIdx_cons_zero, List.eraseIdx_cons_succ]
    refine kp_one (k := 0) hs rfl rfl ?_
    exact hK w hs.drop
end
end Go.Sep
