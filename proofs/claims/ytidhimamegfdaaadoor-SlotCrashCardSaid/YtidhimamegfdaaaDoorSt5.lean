/- Layer 5: what a sector bears. -/
import Derived.Test.YtidhimamegfdaaaDoorSt4
namespace Go.Sep
open Go.Den Go.RowKit Go.Prog Go.Plat
set_option linter.unusedSimpArgs false
set_option linter.unusedVariables false

theorem numL_small {l : List UInt8} (h : l.length ≤ 7) : numL l = (valL l : Int) := by
  have h1 := valL_lt l
  have h2 : 256 ^ l.length ≤ 256 ^ 7 := Nat.pow_le_pow_right (by decide) h
  have h3 : (256 : Nat) ^ 7 = 72057594037927936 := rfl
  unfold numL
  rw [wrap_id (by omega)]

/-- A sector's parts. -/
def sN (l : List UInt8) : Int := numL (l.take 8)
def sI (l : List UInt8) : Int := numL ((l.drop 8).take 2)
def sM (l : List UInt8) : Nat := valL (((l.drop 8).drop 2).take 2)
def sRest (l : List UInt8) : List UInt8 := ((l.drop 8).drop 2).drop 2
def sD (l : List UInt8) : List UInt8 := (sRest l).take (sM l)
def sZ (l : List UInt8) : List UInt8 := ((sRest l).drop (sM l)).take (104 - sM l)
def sTail (l : List UInt8) : Int := numL (((((sRest l).drop (sM l)).drop (104 - sM l)).drop 4).take 8)

def readV (l : List UInt8) : Option (Int × Int × ByteArray) :=
  if ¬ l.length = 128 then none
  else if holdsL (l.take 120) = false then none
  else if 104 < sM l then none
  else if ¬ sTail l = sN l then none
  else if ¬ sZ l = List.replicate (sZ l).length 0 then none
  else if ¬ Good (sN l) (sI l) (bs (sD l)) then none
  else some (sN l, sI l, bs (sD l))

def readRes : Option (Int × Int × ByteArray) → Value
  | none => .tuple ⟨[.agg ⟨[.int .i64 0, .int .i64 0, .string .empty]⟩, .bool false]⟩
  | some (n, i, d) => .tuple ⟨[.agg ⟨[.int .i64 n, .int .i64 i, .string d]⟩, .bool true]⟩

section
variable {W w : World} {L : List HP}

theorem Read_spec {l : List UInt8} {K : VK} (h : St W w L) (hl : l.length < 1099511627776) (hK : ∀ w', St W w' L → K (readRes (readV l)) w') : stamp_Read (bs l) K w := by
  unfold readV at hK
  unfold stamp_Read
  refine mk_of h fun r1 w hs => ?_
  rw [bs_size]
  have fail1 : (∀ w', St W w' L → K (readRes none) w') → ∀ w, St W w (pt r1 [.int .i64 0, .int .i64 0, .string .empty] :: L) → stamp_Read.j1 K r1 (bs l) true w := fun hK w hs => by
    unfold stamp_Read.j1
    simp only [nn_some, add_mk, Nat.zero_add, Nat.add_zero, Nat.reduceAdd, Nat.reduceMul, Option.isNone_some, Option.isNone_none, br_true, br_false, Bool.not_true, Bool.not_false, xI_eq, xB_eq, xS_eq, xP_eq, xL_eq, x0_eq, x2_eq, x3_eq, chk_eq, true_and, and_true, List.set_cons_zero, List.set_cons_succ, List.eraseIdx_cons_zero, List.eraseIdx_cons_succ]
    refine stN_pt (k := 0) hs rfl (Nat.le_of_ble_eq_true rfl) (by simp [Value.oneCell']) fun w hs => ?_
    rw [over_all (by simp)] at hs
    refine ldN_pt (k := 0) (xs := [.int .i64 0, .int .i64 0, .string .empty]) hs rfl rfl (fun j v hj => by rw [Nat.zero_add]; exact hj) ?_
    exact hK w hs.drop
  refine br_ne (fun hne => ?_) (fun he => ?_)
  · rw [if_pos (by omega)] at hK
    exact fail1 hK w hs
  have h128 : l.length = 128 := by omega
  rw [if_neg (by omega)] at hK
  unfold slStr
  dsimp only
  refine ⟨⟨by omega, by rw [bs_size]; omega⟩, ?_⟩
  rw [show (120 : Int).toNat = 120 from rfl, bs_extract0]
  refine Holds_spec hs (by rw [List.length_take]; omega) fun w hs => ?_
  simp only [nn_some, add_mk, Nat.zero_add, Nat.add_zero, Nat.reduceAdd, Nat.reduceMul, Option.isNone_some, Option.isNone_none, br_true, br_false, Bool.not_true, Bool.not_false, xI_eq, xB_eq, xS_eq, xP_eq, xL_eq, x0_eq, x2_eq, x3_eq, chk_eq, true_and, and_true, List.set_cons_zero, List.set_cons_succ, List.eraseIdx_cons_zero, List.eraseIdx_cons_succ]
  cases hh : holdsL (l.take 120) with
  | false =>
    rw [if_pos hh] at hK
    exact fail1 hK w hs
  | true =>
  rw [if_neg (by rw [hh]; exact Bool.noConfusion)] at hK
  unfold stamp_Read.j1
  simp only [nn_some, add_mk, Nat.zero_add, Nat.add_zero, Nat.reduceAdd, Nat.reduceMul, Option.isNone_some, Option.isNone_none, br_true, br_false, Bool.not_true, Bool.not_false, xI_eq, xB_eq, xS_eq, xP_eq, xL_eq, x0_eq, x2_eq, x3_eq, chk_eq, true_and, and_true, List.set_cons_zero, List.set_cons_succ, List.eraseIdx_cons_zero, List.eraseIdx_cons_succ]
  refine tRead_spec hs fun q w hs => ?_
  simp only [nn_some, add_mk, Nat.zero_add, Nat.add_zero, Nat.reduceAdd, Nat.reduceMul, Option.isNone_some, Option.isNone_none, br_true, br_false, Bool.not_true, Bool.not_false, xI_eq, xB_eq, xS_eq, xP_eq, xL_eq, x0_eq, x2_eq, x3_eq, chk_eq, true_and, and_true, List.set_cons_zero, List.set_cons_succ, List.eraseIdx_cons_zero, List.eraseIdx_cons_succ]
  refine Int_at (k := 0) (n := 8) hs rfl (by decide) (by decide) (by omega) fun w hs => ?_
  simp only [nn_some, add_mk, Nat.zero_add, Nat.add_zero, Nat.reduceAdd, Nat.reduceMul, Option.isNone_some, Option.isNone_none, br_true, br_false, Bool.not_true, Bool.not_false, xI_eq, xB_eq, xS_eq, xP_eq, xL_eq, x0_eq, x2_eq, x3_eq, chk_eq, true_and, and_true, List.set_cons_zero, List.set_cons_succ, List.eraseIdx_cons_zero, List.eraseIdx_cons_succ] at hs ⊢
  have l8 : (l.drop 8).length = 120 := by rw [List.length_drop]; omega
  refine Int_at (k := 0) (n := 2) hs rfl (by decide) (by decide) (by omega) fun w hs => ?_
  simp only [nn_some, add_mk, Nat.zero_add, Nat.add_zero, Nat.reduceAdd, Nat.reduceMul, Option.isNone_some, Option.isNone_none, br_true, br_false, Bool.not_true, Bool.not_false, xI_eq, xB_eq, xS_eq, xP_eq, xL_eq, x0_eq, x2_eq, x3_eq, chk_eq, true_and, and_true, List.set_cons_zero, List.set_cons_succ, List.eraseIdx_cons_zero, List.eraseIdx_cons_succ] at hs ⊢
  have l10 : ((l.drop 8).drop 2).length = 118 := by rw [List.length_drop]; omega
  refine mk_of hs fun r2 w hs => ?_
  refine ⟨by simp, ?_⟩
  refine stN_pt (k := 0) hs rfl (Nat.le_of_ble_eq_true rfl) (by simp [Value.oneCell']) fun w hs => ?_
  rw [over_all (by simp)] at hs
  simp only [nn_some, add_mk, Nat.zero_add, Nat.add_zero, Nat.reduceAdd, Nat.reduceMul, Option.isNone_some, Option.isNone_none, br_true, br_false, Bool.not_true, Bool.not_false, xI_eq, xB_eq, xS_eq, xP_eq, xL_eq, x0_eq, x2_eq, x3_eq, chk_eq, true_and, and_true, List.set_cons_zero, List.set_cons_succ, List.eraseIdx_cons_zero, List.eraseIdx_cons_succ] at hs
  refine Int_at (k := 1) (n := 2) hs rfl (by decide) (by decide) (by omega) fun w hs => ?_
  simp only [nn_some, add_mk, Nat.zero_add, Nat.add_zero, Nat.reduceAdd, Nat.reduceMul, Option.isNone_some, Option.isNone_none, br_true, br_false, Bool.not_true, Bool.not_false, xI_eq, xB_eq, xS_eq, xP_eq, xL_eq, x0_eq, x2_eq, x3_eq, chk_eq, true_and, and_true, List.set_cons_zero, List.set_cons_succ, List.eraseIdx_cons_zero, List.eraseIdx_cons_succ] at hs ⊢
  have em : numL (((l.drop 8).drop 2).take 2) = (sM l : Int) := numL_small (by rw [List.length_take]; omega)
  have en : numL (l.take 8) = sN l := rfl
  have ei : numL ((l.drop 8).take 2) = sI l := rfl
  have er : ((l.drop 8).drop 2).drop 2 = sRest l := rfl
  have lr : (sRest l).length = 116 := by unfold sRest; rw [List.length_drop]; omega
  rw [em]
  rw [en, ei, er] at hs
  have fail2 : (∀ w', St W w' L → K (readRes none) w') → ∀ w A B, St W w (A :: B :: pt r1 [.int .i64 0, .int .i64 0, .string .empty] :: L) → chk True (chk True (stN ⟨r1, 0, none⟩ [.int .i64 0, .int .i64 0, .string .empty] (ldN ⟨r1, 0, none⟩ 3 fun cs => K (.tuple ⟨[.agg ⟨cs⟩, .bool false]⟩)))) w := fun hK w A B hs => by
    refine ⟨trivial, trivial, ?_⟩
    refine stN_pt (k := 2) hs rfl (Nat.le_of_ble_eq_true rfl) (by simp [Value.oneCell']) fun w hs => ?_
    rw [over_all (by simp)] at hs
    refine ldN_pt (k := 2) (xs := [.int .i64 0, .int .i64 0, .string .empty]) hs rfl rfl (fun j v hj => by rw [Nat.zero_add]; exact hj) ?_
    exact hK w hs.drop.drop.drop
  refine br_of (fun hgt => ?_) (fun hle => ?_)
  · have hgt := of_decide_eq_true hgt
    rw [if_pos (by omega)] at hK
    exact fail2 hK w _ _ hs
  have hle := of_decide_eq_false hle
  rw [if_neg (by omega)] at hK
  refine Raw_at (k := 1) (n := sM l) hs rfl (by omega) fun w hs => ?_
  simp only [nn_some, add_mk, Nat.zero_add, Nat.add_zero, Nat.reduceAdd, Nat.reduceMul, Option.isNone_some, Option.isNone_none, br_true, br_false, Bool.not_true, Bool.not_false, xI_eq, xB_eq, xS_eq, xP_eq, xL_eq, x0_eq, x2_eq, x3_eq, chk_eq, true_and, and_true, List.set_cons_zero, List.set_cons_succ, List.eraseIdx_cons_zero, List.eraseIdx_cons_succ] at hs ⊢
  have ed : (sRest l).take (sM l) = sD l := rfl
  rw [ed]
  refine st_pt (k := 0) hs rfl (Nat.le_of_ble_eq_true rfl) rfl fun w hs => ?_
  simp only [nn_some, add_mk, Nat.zero_add, Nat.add_zero, Nat.reduceAdd, Nat.reduceMul, Option.isNone_some, Option.isNone_none, br_true, br_false, Bool.not_true, Bool.not_false, xI_eq, xB_eq, xS_eq, xP_eq, xL_eq, x0_eq, x2_eq, x3_eq, chk_eq, true_and, and_true, List.set_cons_zero, List.set_cons_succ, List.eraseIdx_cons_zero, List.eraseIdx_cons_succ] at hs
  have ew : IntKind.i64.wrap (104 - (sM l : Int)) = ((104 - sM l : Nat) : Int) := by rw [wrap_id (by omega)]; omega
  rw [ew]
  have lrm : ((sRest l).drop (sM l)).length = 116 - sM l := by rw [List.length_drop, lr]
  refine Raw_at (k := 1) (n := 104 - sM l) hs rfl (by omega) fun w hs => ?_
  simp only [nn_some, add_mk, Nat.zero_add, Nat.add_zero, Nat.reduceAdd, Nat.reduceMul, Option.isNone_some, Option.isNone_none, br_true, br_false, Bool.not_true, Bool.not_false, xI_eq, xB_eq, xS_eq, xP_eq, xL_eq, x0_eq, x2_eq, x3_eq, chk_eq, true_and, and_true, List.set_cons_zero, List.set_cons_succ, List.eraseIdx_cons_zero, List.eraseIdx_cons_succ] at hs ⊢
  have ez : ((sRest l).drop (sM l)).take (104 - sM l) = sZ l := rfl
  rw [ez]
  have lrz : (((sRest l).drop (sM l)).drop (104 - sM l)).length = 12 := by rw [List.length_drop, lrm]; omega
  refine Raw_at (k := 1) (n := 4) hs rfl (by omega) fun w hs => ?_
  simp only [nn_some, add_mk, Nat.zero_add, Nat.add_zero, Nat.reduceAdd, Nat.reduceMul, Option.isNone_some, Option.isNone_none, br_true, br_false, Bool.not_true, Bool.not_false, xI_eq, xB_eq, xS_eq, xP_eq, xL_eq, x0_eq, x2_eq, x3_eq, chk_eq, true_and, and_true, List.set_cons_zero, List.set_cons_succ, List.eraseIdx_cons_zero, List.eraseIdx_cons_succ] at hs ⊢
  have lrc : ((((sRest l).drop (sM l)).drop (104 - sM l)).drop 4).length = 8 := by rw [List.length_drop, lrz]
  refine tick_of hs fun w hs => ?_
  refine ld_pt (k := 0) hs rfl rfl ?_
  simp only [nn_some, add_mk, Nat.zero_add, Nat.add_zero, Nat.reduceAdd, Nat.reduceMul, Option.isNone_some, Option.isNone_none, br_true, br_false, Bool.not_true, Bool.not_false, xI_eq, xB_eq, xS_eq, xP_eq, xL_eq, x0_eq, x2_eq, x3_eq, chk_eq, true_and, and_true, List.set_cons_zero, List.set_cons_succ, List.eraseIdx_cons_zero, List.eraseIdx_cons_succ]
  refine Int_at (k := 1) (n := 8) hs rfl (by decide) (by decide) (by omega) fun w hs => ?_
  simp only [nn_some, add_mk, Nat.zero_add, Nat.add_zero, Nat.reduceAdd, Nat.reduceMul, Option.isNone_some, Option.isNone_none, br_true, br_false, Bool.not_true, Bool.not_false, xI_eq, xB_eq, xS_eq, xP_eq, xL_eq, x0_eq, x2_eq, x3_eq, chk_eq, true_and, and_true, List.set_cons_zero, List.set_cons_succ, List.eraseIdx_cons_zero, List.eraseIdx_cons_succ] at hs ⊢
  refine kp_one (k := 0) hs rfl rfl ?_
  have et : numL (((((sRest l).drop (sM l)).drop (104 - sM l)).drop 4).take 8) = sTail l := rfl
  rw [et]
  refine br_ne (fun hne => ?_) (fun heq => ?_)
  · rw [if_pos hne] at hK
    exact fail2 hK w _ _ hs
  rw [if_neg (fun hh => hh heq)] at hK
  refine Trim_spec hs (by unfold sZ; rw [List.length_take]; omega) fun s5 w hr hs => ?_
  simp only [nn_some, add_mk, Nat.zero_add, Nat.add_zero, Nat.reduceAdd, Nat.reduceMul, Option.isNone_some, Option.isNone_none, br_true, br_false, Bool.not_true, Bool.not_false, xI_eq, xB_eq, xS_eq, xP_eq, xL_eq, x0_eq, x2_eq, x3_eq, chk_eq, true_and, and_true, List.set_cons_zero, List.set_cons_succ, List.eraseIdx_cons_zero, List.eraseIdx_cons_succ]
  refine kp_one (k := 0) hs rfl rfl ?_
  have hemp : (⟨#[]⟩ : ByteArray) = .empty := rfl
  rw [strEq_iff, hemp]
  by_cases hz : sZ l = List.replicate (sZ l).length 0
  · rw [if_neg (fun hh => hh hz)] at hK
    rw [decide_eq_true (hr.2 hz)]
    simp only [nn_some, add_mk, Nat.zero_add, Nat.add_zero, Nat.reduceAdd, Nat.reduceMul, Option.isNone_some, Option.isNone_none, br_true, br_false, Bool.not_true, Bool.not_false, xI_eq, xB_eq, xS_eq, xP_eq, xL_eq, x0_eq, x2_eq, x3_eq, chk_eq, true_and, and_true, List.set_cons_zero, List.set_cons_succ, List.eraseIdx_cons_zero, List.eraseIdx_cons_succ]
    refine ldN_pt (k := 0) (xs := [.int .i64 (sN l), .int .i64 (sI l), .string (bs (sD l))]) hs rfl rfl (fun j v hj => by rw [Nat.zero_add]; exact hj) ?_
    refine good_spec hs fun w hs => ?_
    simp only [nn_some, add_mk, Nat.zero_add, Nat.add_zero, Nat.reduceAdd, Nat.reduceMul, Option.isNone_some, Option.isNone_none, br_true, br_false, Bool.not_true, Bool.not_false, xI_eq, xB_eq, xS_eq, xP_eq, xL_eq, x0_eq, x2_eq, x3_eq, chk_eq, true_and, and_true, List.set_cons_zero, List.set_cons_succ, List.eraseIdx_cons_zero, List.eraseIdx_cons_succ]
    refine kp_one (k := 0) hs rfl rfl ?_
    by_cases hg : Good (sN l) (sI l) (bs (sD l))
    · rw [if_neg (fun hh => hh hg)] at hK
      rw [decide_eq_true hg]
      simp only [nn_some, add_mk, Nat.zero_add, Nat.add_zero, Nat.reduceAdd, Nat.reduceMul, Option.isNone_some, Option.isNone_none, br_true, br_false, Bool.not_true, Bool.not_false, xI_eq, xB_eq, xS_eq, xP_eq, xL_eq, x0_eq, x2_eq, x3_eq, chk_eq, true_and, and_true, List.set_cons_zero, List.set_cons_succ, List.eraseIdx_cons_zero, List.eraseIdx_cons_succ]
      refine ldN_pt (k := 0) (xs := [.int .i64 (sN l), .int .i64 (sI l), .string (bs (sD l))]) hs rfl rfl (fun j v hj => by rw [Nat.zero_add]; exact hj) ?_
      refine ⟨rfl, ?_⟩
      refine stN_pt (k := 2) hs rfl (Nat.le_of_ble_eq_true rfl) (by simp [Value.oneCell']) fun w hs => ?_
      rw [over_all (by simp)] at hs
      simp only [nn_some, add_mk, Nat.zero_add, Nat.add_zero, Nat.reduceAdd, Nat.reduceMul, Option.isNone_some, Option.isNone_none, br_true, br_false, Bool.not_true, Bool.not_false, xI_eq, xB_eq, xS_eq, xP_eq, xL_eq, x0_eq, x2_eq, x3_eq, chk_eq, true_and, and_true, List.set_cons_zero, List.set_cons_succ, List.eraseIdx_cons_zero, List.eraseIdx_cons_succ] at hs
      refine ldN_pt (k := 2) (xs := [.int .i64 (sN l), .int .i64 (sI l), .string (bs (sD l))]) hs rfl rfl (fun j v hj => by rw [Nat.zero_add]; exact hj) ?_
      exact hK w hs.drop.drop.drop
    · rw [if_pos hg] at hK
      rw [decide_eq_false hg]
      simp only [nn_some, add_mk, Nat.zero_add, Nat.add_zero, Nat.reduceAdd, Nat.reduceMul, Option.isNone_some, Option.isNone_none, br_true, br_false, Bool.not_true, Bool.not_false, xI_eq, xB_eq, xS_eq, xP_eq, xL_eq, x0_eq, x2_eq, x3_eq, chk_eq, true_and, and_true, List.set_cons_zero, List.set_cons_succ, List.eraseIdx_cons_zero, List.eraseIdx_cons_succ]
      exact (fail2 hK w _ _ hs).2.2
  · rw [if_pos hz] at hK
    rw [decide_eq_false (fun hh => hz (hr.1 hh))]
    simp only [nn_some, add_mk, Nat.zero_add, Nat.add_zero, Nat.reduceAdd, Nat.reduceMul, Option.isNone_some, Option.isNone_none, br_true, br_false, Bool.not_true, Bool.not_false, xI_eq, xB_eq, xS_eq, xP_eq, xL_eq, x0_eq, x2_eq, x3_eq, chk_eq, true_and, and_true, List.set_cons_zero, List.set_cons_succ, List.eraseIdx_cons_zero, List.eraseIdx_cons_succ]
    exact (fail2 hK w _ _ hs).2.2
end
end Go.Sep
