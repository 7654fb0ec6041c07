/- CrB: Cr0, Cr1, merged: part of the proof: see the last text. -/
import Derived.Test.YtidhimamegfdaaaDoorRefA
import Derived.Test.YtidhimamegfdaaaDoorSlA
/- Layer 8: heads. -/
namespace Go.Sep
open Go.Den Go.RowKit Go.Prog Go.Plat
set_option linter.unusedSimpArgs false
set_option linter.unusedVariables false

structure PHead where
  turn : Int
  number : Int
  size : Int
  seq : Int
deriving DecidableEq

def headCells (h : PHead) : List Value := [.int .i64 h.turn, .int .i64 h.number, .int .i64 h.size, .int .i64 h.seq]
def HGood (h : PHead) : Prop := 1 ≤ h.turn ∧ h.turn ≤ 1152921504606846976 ∧ 1 ≤ h.number ∧ h.number ≤ 1152921504606846976 ∧ 0 ≤ h.size ∧ h.size ≤ 425984 ∧ 0 ≤ h.seq ∧ h.seq ≤ 1152921504606846976
instance (h : PHead) : Decidable (HGood h) := by unfold HGood; infer_instance
def headL (h : PHead) : List UInt8 := le .i64 8 h.turn ++ le .i64 8 h.number ++ le .i64 8 h.size ++ le .i64 8 h.seq
theorem headL_length (h : PHead) : (headL h).length = 32 := by simp only [headL, List.length_append, le_length]
def zeroH : PHead := ⟨0, 0, 0, 0⟩

/-- The head that bytes are. -/
def headOf (l : List UInt8) : PHead := ⟨numL (l.take 8), numL ((l.drop 8).take 8), numL (((l.drop 8).drop 8).take 8), numL ((((l.drop 8).drop 8).drop 8).take 8)⟩
def readH (l : List UInt8) : Option PHead := if l.length = 32 ∧ HGood (headOf l) then some (headOf l) else none

theorem valL_inj' : ∀ (a b : List UInt8), a.length = b.length → valL a = valL b → a = b
  | [], [], _, _ => rfl
  | [], _ :: _, h, _ => by simp at h
  | _ :: _, [], h, _ => by simp at h
  | c :: a, d :: b, h, hv => by
    have hc := c.toNat_lt
    have hd := d.toNat_lt
    simp only [valL] at hv
    have h1 : c.toNat = d.toNat := by omega
    rw [valL_inj' a b (by simpa using h) (by omega), UInt8.toNat_inj.1 h1]

theorem headL_readH {h : PHead} (hg : HGood h) : readH (headL h) = some h := by
  obtain ⟨h1, h2, h3, h4, h5, h6, h7, h8⟩ := hg
  have hshape : headL h = le .i64 8 h.turn ++ (le .i64 8 h.number ++ (le .i64 8 h.size ++ le .i64 8 h.seq)) := by simp only [headL, List.append_assoc]
  have tl : ∀ (a b : List UInt8) (m : Nat), a.length = m → (a ++ b).take m = a := fun a b m hm => by subst hm; exact List.take_left
  have dl : ∀ (a b : List UInt8) (m : Nat), a.length = m → (a ++ b).drop m = b := fun a b m hm => by subst hm; exact List.drop_left
  have e : headOf (headL h) = h := by
    unfold headOf
    rw [hshape, tl _ _ _ (le_length _ _ _), dl _ _ _ (le_length _ _ _), tl _ _ _ (le_length _ _ _), dl _ _ _ (le_length _ _ _), tl _ _ _ (le_length _ _ _), dl _ _ _ (le_length _ _ _), List.take_of_length_le (by rw [le_length]; omega)]
    rw [numL_le8 ⟨by omega, h2⟩, numL_le8 ⟨by omega, h4⟩, numL_le8 ⟨h5, by omega⟩, numL_le8 ⟨h7, h8⟩]
  unfold readH
  rw [e, if_pos ⟨headL_length h, h1, h2, h3, h4, h5, h6, h7, h8⟩]

theorem readH_headL {l : List UInt8} {h : PHead} (hr : readH l = some h) : HGood h ∧ headL h = l := by
  unfold readH at hr
  split at hr
  · rename_i hc
    obtain ⟨hl, hg⟩ := hc
    cases hr
    refine ⟨hg, ?_⟩
    obtain ⟨h1, h2, h3, h4, h5, h6, h7, h8⟩ := hg
    have key : ∀ (p : List UInt8) (n : Int), p.length = 8 → 0 ≤ n ∧ n ≤ 1152921504606846976 → numL p = n → le .i64 8 n = p := fun p n hp hn he => by
      have hv := valL_lt p
      have hpw : (256 : Nat) ^ 8 = 18446744073709551616 := rfl
      rw [hp, hpw] at hv
      have hval : (valL p : Int) = n := by
        unfold numL at he
        simp [IntKind.wrap, IntKind.bits, IntKind.signed] at he
        split at he <;> omega
      obtain ⟨m, rfl⟩ := Int.eq_ofNat_of_zero_le hn.1
      refine valL_inj' _ _ (by rw [hp, le_length]) ?_
      rw [valL_le m 8 (by omega), hpw, Nat.mod_eq_of_lt (by omega)]
      omega
    have l1 : (l.take 8).length = 8 := by rw [List.length_take]; omega
    have l2 : ((l.drop 8).take 8).length = 8 := by rw [List.length_take, List.length_drop]; omega
    have l3 : (((l.drop 8).drop 8).take 8).length = 8 := by rw [List.length_take, List.length_drop, List.length_drop]; omega
    have l4 : ((((l.drop 8).drop 8).drop 8).take 8).length = 8 := by rw [List.length_take, List.length_drop, List.length_drop, List.length_drop]; omega
    unfold headL
    rw [key _ _ l1 ⟨by omega, h2⟩ rfl, key _ _ l2 ⟨by omega, h4⟩ rfl, key _ _ l3 ⟨h5, by omega⟩ rfl, key _ _ l4 ⟨h7, h8⟩ rfl]
    have e4 : (((l.drop 8).drop 8).drop 8).take 8 = ((l.drop 8).drop 8).drop 8 := List.take_of_length_le (by rw [List.length_drop, List.length_drop, List.length_drop]; omega)
    rw [e4, List.append_assoc, List.append_assoc, List.take_append_drop, List.take_append_drop, List.take_append_drop]
  · cases hr

def headRes : Option PHead → Value
  | none => .tuple ⟨[.agg ⟨headCells zeroH⟩, .bool false]⟩
  | some h => .tuple ⟨[.agg ⟨headCells h⟩, .bool true]⟩

section
variable {W w : World} {L : List HP} {k : Nat}

theorem cGood_spec {h : PHead} {K : VK} (hs : St W w L) (hK : ∀ w', St W w' L → K (.bool (decide (HGood h))) w') : crown_Good (headCells h) K w := by
  unfold crown_Good
  refine mk_of hs fun r w hs => ?_
  have hh := hK w hs.drop
  have no : ¬ HGood h → K (.bool false) w := fun hn => by rw [decide_eq_false hn] at hh; exact hh
  refine ld_pt (k := 0) hs rfl rfl ?_
  simp only [nn_some, add_mk, Nat.zero_add, Nat.add_zero, Nat.reduceAdd, Nat.reduceMul, Option.isNone_some, Option.isNone_none, br_true, br_false, Bool.not_true, Bool.not_false, xI_eq, xB_eq, xS_eq, xP_eq, xL_eq, x0_eq, x2_eq, x3_eq, chk_eq, true_and, and_true, List.set_cons_zero, List.set_cons_succ, List.eraseIdx_cons_zero, List.eraseIdx_cons_succ]
  refine br_dec (fun h1 => ?_) (fun h1 => no (by unfold HGood; omega))
  refine ld_pt (k := 0) hs rfl rfl ?_
  simp only [nn_some, add_mk, Nat.zero_add, Nat.add_zero, Nat.reduceAdd, Nat.reduceMul, Option.isNone_some, Option.isNone_none, br_true, br_false, Bool.not_true, Bool.not_false, xI_eq, xB_eq, xS_eq, xP_eq, xL_eq, x0_eq, x2_eq, x3_eq, chk_eq, true_and, and_true, List.set_cons_zero, List.set_cons_succ, List.eraseIdx_cons_zero, List.eraseIdx_cons_succ]
  refine br_dec (fun h2 => ?_) (fun h1 => no (by unfold HGood; omega))
  refine ld_pt (k := 0) hs rfl rfl ?_
  simp only [nn_some, add_mk, Nat.zero_add, Nat.add_zero, Nat.reduceAdd, Nat.reduceMul, Option.isNone_some, Option.isNone_none, br_true, br_false, Bool.not_true, Bool.not_false, xI_eq, xB_eq, xS_eq, xP_eq, xL_eq, x0_eq, x2_eq, x3_eq, chk_eq, true_and, and_true, List.set_cons_zero, List.set_cons_succ, List.eraseIdx_cons_zero, List.eraseIdx_cons_succ]
  refine br_dec (fun h3 => ?_) (fun h1 => no (by unfold HGood; omega))
  refine ld_pt (k := 0) hs rfl rfl ?_
  simp only [nn_some, add_mk, Nat.zero_add, Nat.add_zero, Nat.reduceAdd, Nat.reduceMul, Option.isNone_some, Option.isNone_none, br_true, br_false, Bool.not_true, Bool.not_false, xI_eq, xB_eq, xS_eq, xP_eq, xL_eq, x0_eq, x2_eq, x3_eq, chk_eq, true_and, and_true, List.set_cons_zero, List.set_cons_succ, List.eraseIdx_cons_zero, List.eraseIdx_cons_succ]
  refine br_dec (fun h4 => ?_) (fun h1 => no (by unfold HGood; omega))
  refine ld_pt (k := 0) hs rfl rfl ?_
  simp only [nn_some, add_mk, Nat.zero_add, Nat.add_zero, Nat.reduceAdd, Nat.reduceMul, Option.isNone_some, Option.isNone_none, br_true, br_false, Bool.not_true, Bool.not_false, xI_eq, xB_eq, xS_eq, xP_eq, xL_eq, x0_eq, x2_eq, x3_eq, chk_eq, true_and, and_true, List.set_cons_zero, List.set_cons_succ, List.eraseIdx_cons_zero, List.eraseIdx_cons_succ]
  refine br_dec (fun h5 => ?_) (fun h1 => no (by unfold HGood; omega))
  refine ld_pt (k := 0) hs rfl rfl ?_
  simp only [nn_some, add_mk, Nat.zero_add, Nat.add_zero, Nat.reduceAdd, Nat.reduceMul, Option.isNone_some, Option.isNone_none, br_true, br_false, Bool.not_true, Bool.not_false, xI_eq, xB_eq, xS_eq, xP_eq, xL_eq, x0_eq, x2_eq, x3_eq, chk_eq, true_and, and_true, List.set_cons_zero, List.set_cons_succ, List.eraseIdx_cons_zero, List.eraseIdx_cons_succ]
  refine br_dec (fun h6 => ?_) (fun h1 => no (by unfold HGood; omega))
  refine ld_pt (k := 0) hs rfl rfl ?_
  simp only [nn_some, add_mk, Nat.zero_add, Nat.add_zero, Nat.reduceAdd, Nat.reduceMul, Option.isNone_some, Option.isNone_none, br_true, br_false, Bool.not_true, Bool.not_false, xI_eq, xB_eq, xS_eq, xP_eq, xL_eq, x0_eq, x2_eq, x3_eq, chk_eq, true_and, and_true, List.set_cons_zero, List.set_cons_succ, List.eraseIdx_cons_zero, List.eraseIdx_cons_succ]
  refine br_dec (fun h7 => ?_) (fun h1 => no (by unfold HGood; omega))
  refine ld_pt (k := 0) hs rfl rfl ?_
  simp only [nn_some, add_mk, Nat.zero_add, Nat.add_zero, Nat.reduceAdd, Nat.reduceMul, Option.isNone_some, Option.isNone_none, br_true, br_false, Bool.not_true, Bool.not_false, xI_eq, xB_eq, xS_eq, xP_eq, xL_eq, x0_eq, x2_eq, x3_eq, chk_eq, true_and, and_true, List.set_cons_zero, List.set_cons_succ, List.eraseIdx_cons_zero, List.eraseIdx_cons_succ]
  have : decide (h.seq ≤ 1152921504606846976) = decide (HGood h) := by rw [decide_eq_decide]; unfold HGood; omega
  rw [this]; exact hh

theorem rGood_spec {h : PHead} {K : VK} (hK : K (.bool (decide (HGood h))) w) : bondstoreref08_Good h.turn h.number h.size h.seq K w := by
  have no : ¬ HGood h → K (.bool false) w := fun hn => by rw [decide_eq_false hn] at hK; exact hK
  unfold bondstoreref08_Good
  refine br_dec (fun h1 => ?_) (fun h1 => no (by unfold HGood; omega))
  refine br_dec (fun h2 => ?_) (fun h1 => no (by unfold HGood; omega))
  refine br_dec (fun h3 => ?_) (fun h1 => no (by unfold HGood; omega))
  refine br_dec (fun h4 => ?_) (fun h1 => no (by unfold HGood; omega))
  refine br_dec (fun h5 => ?_) (fun h1 => no (by unfold HGood; omega))
  refine br_dec (fun h6 => ?_) (fun h1 => no (by unfold HGood; omega))
  refine br_dec (fun h7 => ?_) (fun h1 => no (by unfold HGood; omega))
  have : decide (h.seq ≤ 1152921504606846976) = decide (HGood h) := by rw [decide_eq_decide]; unfold HGood; omega
  rw [this]; exact hK

theorem good8_spec {h : PHead} {K : VK} (hs : St W w L) (hK : ∀ w', St W w' L → K (.bool (decide (HGood h))) w') : bondstorelaw08_good (headCells h) K w := by
  unfold bondstorelaw08_good
  refine mk_of hs fun r w hs => ?_
  refine ld_pt (k := 0) hs rfl rfl ?_
  simp only [nn_some, add_mk, Nat.zero_add, Nat.add_zero, Nat.reduceAdd, Nat.reduceMul, Option.isNone_some, Option.isNone_none, br_true, br_false, Bool.not_true, Bool.not_false, xI_eq, xB_eq, xS_eq, xP_eq, xL_eq, x0_eq, x2_eq, x3_eq, chk_eq, true_and, and_true, List.set_cons_zero, List.set_cons_succ, List.eraseIdx_cons_zero, List.eraseIdx_cons_succ]
  refine ld_pt (k := 0) hs rfl rfl ?_
  simp only [nn_some, add_mk, Nat.zero_add, Nat.add_zero, Nat.reduceAdd, Nat.reduceMul, Option.isNone_some, Option.isNone_none, br_true, br_false, Bool.not_true, Bool.not_false, xI_eq, xB_eq, xS_eq, xP_eq, xL_eq, x0_eq, x2_eq, x3_eq, chk_eq, true_and, and_true, List.set_cons_zero, List.set_cons_succ, List.eraseIdx_cons_zero, List.eraseIdx_cons_succ]
  refine ld_pt (k := 0) hs rfl rfl ?_
  simp only [nn_some, add_mk, Nat.zero_add, Nat.add_zero, Nat.reduceAdd, Nat.reduceMul, Option.isNone_some, Option.isNone_none, br_true, br_false, Bool.not_true, Bool.not_false, xI_eq, xB_eq, xS_eq, xP_eq, xL_eq, x0_eq, x2_eq, x3_eq, chk_eq, true_and, and_true, List.set_cons_zero, List.set_cons_succ, List.eraseIdx_cons_zero, List.eraseIdx_cons_succ]
  refine ld_pt (k := 0) hs rfl rfl ?_
  simp only [nn_some, add_mk, Nat.zero_add, Nat.add_zero, Nat.reduceAdd, Nat.reduceMul, Option.isNone_some, Option.isNone_none, br_true, br_false, Bool.not_true, Bool.not_false, xI_eq, xB_eq, xS_eq, xP_eq, xL_eq, x0_eq, x2_eq, x3_eq, chk_eq, true_and, and_true, List.set_cons_zero, List.set_cons_succ, List.eraseIdx_cons_zero, List.eraseIdx_cons_succ]
  refine rGood_spec ?_
  simp only [nn_some, add_mk, Nat.zero_add, Nat.add_zero, Nat.reduceAdd, Nat.reduceMul, Option.isNone_some, Option.isNone_none, br_true, br_false, Bool.not_true, Bool.not_false, xI_eq, xB_eq, xS_eq, xP_eq, xL_eq, x0_eq, x2_eq, x3_eq, chk_eq, true_and, and_true, List.set_cons_zero, List.set_cons_succ, List.eraseIdx_cons_zero, List.eraseIdx_cons_succ]
  exact hK w hs.drop

theorem rBytes8_spec {h : PHead} {K : VK} (hs : St W w L) (hK : ∀ w', St W w' L → K (.string (bs (headL h))) w') : bondstoreref08_Bytes h.turn h.number h.size h.seq K w := by
  have e8 : (min2 (max2 8 1) 8).toNat = 8 := rfl
  unfold bondstoreref08_Bytes
  refine rInt_spec hs fun w hs => ?_
  rw [e8]
  simp only [nn_some, add_mk, Nat.zero_add, Nat.add_zero, Nat.reduceAdd, Nat.reduceMul, Option.isNone_some, Option.isNone_none, br_true, br_false, Bool.not_true, Bool.not_false, xI_eq, xB_eq, xS_eq, xP_eq, xL_eq, x0_eq, x2_eq, x3_eq, chk_eq, true_and, and_true, List.set_cons_zero, List.set_cons_succ, List.eraseIdx_cons_zero, List.eraseIdx_cons_succ]
  refine rInt_spec hs fun w hs => ?_
  rw [e8]
  simp only [nn_some, add_mk, Nat.zero_add, Nat.add_zero, Nat.reduceAdd, Nat.reduceMul, Option.isNone_some, Option.isNone_none, br_true, br_false, Bool.not_true, Bool.not_false, xI_eq, xB_eq, xS_eq, xP_eq, xL_eq, x0_eq, x2_eq, x3_eq, chk_eq, true_and, and_true, List.set_cons_zero, List.set_cons_succ, List.eraseIdx_cons_zero, List.eraseIdx_cons_succ]
  refine ⟨by rw [bs_size, bs_size, le_length, le_length]; omega, ?_⟩
  refine rInt_spec hs fun w hs => ?_
  rw [e8]
  simp only [nn_some, add_mk, Nat.zero_add, Nat.add_zero, Nat.reduceAdd, Nat.reduceMul, Option.isNone_some, Option.isNone_none, br_true, br_false, Bool.not_true, Bool.not_false, xI_eq, xB_eq, xS_eq, xP_eq, xL_eq, x0_eq, x2_eq, x3_eq, chk_eq, true_and, and_true, List.set_cons_zero, List.set_cons_succ, List.eraseIdx_cons_zero, List.eraseIdx_cons_succ]
  rw [bs_append]
  refine ⟨by rw [bs_size, bs_size, List.length_append, le_length, le_length, le_length]; omega, ?_⟩
  refine rInt_spec hs fun w hs => ?_
  rw [e8]
  simp only [nn_some, add_mk, Nat.zero_add, Nat.add_zero, Nat.reduceAdd, Nat.reduceMul, Option.isNone_some, Option.isNone_none, br_true, br_false, Bool.not_true, Bool.not_false, xI_eq, xB_eq, xS_eq, xP_eq, xL_eq, x0_eq, x2_eq, x3_eq, chk_eq, true_and, and_true, List.set_cons_zero, List.set_cons_succ, List.eraseIdx_cons_zero, List.eraseIdx_cons_succ]
  rw [bs_append, bs_append]
  refine ⟨by rw [bs_size, bs_size, List.length_append, List.length_append, le_length, le_length, le_length, le_length]; omega, ?_⟩
  exact hK w hs

theorem bytes8_spec {h : PHead} {K : VK} (hs : St W w L) (hK : ∀ w', St W w' L → K (.string (bs (headL h))) w') : bondstorelaw08_bytes (headCells h) K w := by
  unfold bondstorelaw08_bytes
  refine mk_of hs fun r w hs => ?_
  refine ld_pt (k := 0) hs rfl rfl ?_
  simp only [nn_some, add_mk, Nat.zero_add, Nat.add_zero, Nat.reduceAdd, Nat.reduceMul, Option.isNone_some, Option.isNone_none, br_true, br_false, Bool.not_true, Bool.not_false, xI_eq, xB_eq, xS_eq, xP_eq, xL_eq, x0_eq, x2_eq, x3_eq, chk_eq, true_and, and_true, List.set_cons_zero, List.set_cons_succ, List.eraseIdx_cons_zero, List.eraseIdx_cons_succ]
  refine ld_pt (k := 0) hs rfl rfl ?_
  simp only [nn_some, add_mk, Nat.zero_add, Nat.add_zero, Nat.reduceAdd, Nat.reduceMul, Option.isNone_some, Option.isNone_none, br_true, br_false, Bool.not_true, Bool.not_false, xI_eq, xB_eq, xS_eq, xP_eq, xL_eq, x0_eq, x2_eq, x3_eq, chk_eq, true_and, and_true, List.set_cons_zero, List.set_cons_succ, List.eraseIdx_cons_zero, List.eraseIdx_cons_succ]
  refine ld_pt (k := 0) hs rfl rfl ?_
  simp only [nn_some, add_mk, Nat.zero_add, Nat.add_zero, Nat.reduceAdd, Nat.reduceMul, Option.isNone_some, Option.isNone_none, br_true, br_false, Bool.not_true, Bool.not_false, xI_eq, xB_eq, xS_eq, xP_eq, xL_eq, x0_eq, x2_eq, x3_eq, chk_eq, true_and, and_true, List.set_cons_zero, List.set_cons_succ, List.eraseIdx_cons_zero, List.eraseIdx_cons_succ]
  refine ld_pt (k := 0) hs rfl rfl ?_
  simp only [nn_some, add_mk, Nat.zero_add, Nat.add_zero, Nat.reduceAdd, Nat.reduceMul, Option.isNone_some, Option.isNone_none, br_true, br_false, Bool.not_true, Bool.not_false, xI_eq, xB_eq, xS_eq, xP_eq, xL_eq, x0_eq, x2_eq, x3_eq, chk_eq, true_and, and_true, List.set_cons_zero, List.set_cons_succ, List.eraseIdx_cons_zero, List.eraseIdx_cons_succ]
  refine rBytes8_spec hs fun w hs => ?_
  simp only [nn_some, add_mk, Nat.zero_add, Nat.add_zero, Nat.reduceAdd, Nat.reduceMul, Option.isNone_some, Option.isNone_none, br_true, br_false, Bool.not_true, Bool.not_false, xI_eq, xB_eq, xS_eq, xP_eq, xL_eq, x0_eq, x2_eq, x3_eq, chk_eq, true_and, and_true, List.set_cons_zero, List.set_cons_succ, List.eraseIdx_cons_zero, List.eraseIdx_cons_succ]
  exact hK w hs.drop

def headSum (h : PHead) : List UInt8 × Int := if HGood h then (headL h, 0) else ([], 1)

theorem cBytes_spec {h : PHead} {K : VK} (hs : St W w L) (hK : ∀ w', St W w' L → K (.tuple ⟨[.string (bs (headSum h).1), .int .i64 (headSum h).2]⟩) w') : crown_Bytes (headCells h) K w := by
  unfold crown_Bytes
  refine mk_of hs fun r w hs => ?_
  refine ldN_pt (k := 0) (xs := headCells h) hs rfl rfl (fun j v hj => by rw [Nat.zero_add]; exact hj) ?_
  refine cGood_spec hs fun w hs => ?_
  simp only [nn_some, add_mk, Nat.zero_add, Nat.add_zero, Nat.reduceAdd, Nat.reduceMul, Option.isNone_some, Option.isNone_none, br_true, br_false, Bool.not_true, Bool.not_false, xI_eq, xB_eq, xS_eq, xP_eq, xL_eq, x0_eq, x2_eq, x3_eq, chk_eq, true_and, and_true, List.set_cons_zero, List.set_cons_succ, List.eraseIdx_cons_zero, List.eraseIdx_cons_succ]
  unfold headSum at hK
  by_cases hg : HGood h
  · rw [if_pos hg] at hK
    rw [decide_eq_true hg]
    simp only [nn_some, add_mk, Nat.zero_add, Nat.add_zero, Nat.reduceAdd, Nat.reduceMul, Option.isNone_some, Option.isNone_none, br_true, br_false, Bool.not_true, Bool.not_false, xI_eq, xB_eq, xS_eq, xP_eq, xL_eq, x0_eq, x2_eq, x3_eq, chk_eq, true_and, and_true, List.set_cons_zero, List.set_cons_succ, List.eraseIdx_cons_zero, List.eraseIdx_cons_succ]
    refine mk_of hs fun p w hs => ?_
    have hs : St W w (buf p [] :: pt r (headCells h) :: L) := by
      have h2 := (hs.push (A := own none 0 0 1 (([] : List UInt8).map u8v)) (own_nil 1)).perm (List.Perm.swap _ _ _)
      exact buf_close (k := 0) (L := buf p [] :: pt r (headCells h) :: L) (A := buf p []) rfl rfl h2
    refine ld_pt (k := 1) hs rfl rfl ?_
    simp only [nn_some, add_mk, Nat.zero_add, Nat.add_zero, Nat.reduceAdd, Nat.reduceMul, Option.isNone_some, Option.isNone_none, br_true, br_false, Bool.not_true, Bool.not_false, xI_eq, xB_eq, xS_eq, xP_eq, xL_eq, x0_eq, x2_eq, x3_eq, chk_eq, true_and, and_true, List.set_cons_zero, List.set_cons_succ, List.eraseIdx_cons_zero, List.eraseIdx_cons_succ]
    refine ld_pt (k := 1) hs rfl rfl ?_
    simp only [nn_some, add_mk, Nat.zero_add, Nat.add_zero, Nat.reduceAdd, Nat.reduceMul, Option.isNone_some, Option.isNone_none, br_true, br_false, Bool.not_true, Bool.not_false, xI_eq, xB_eq, xS_eq, xP_eq, xL_eq, x0_eq, x2_eq, x3_eq, chk_eq, true_and, and_true, List.set_cons_zero, List.set_cons_succ, List.eraseIdx_cons_zero, List.eraseIdx_cons_succ]
    refine ld_pt (k := 1) hs rfl rfl ?_
    simp only [nn_some, add_mk, Nat.zero_add, Nat.add_zero, Nat.reduceAdd, Nat.reduceMul, Option.isNone_some, Option.isNone_none, br_true, br_false, Bool.not_true, Bool.not_false, xI_eq, xB_eq, xS_eq, xP_eq, xL_eq, x0_eq, x2_eq, x3_eq, chk_eq, true_and, and_true, List.set_cons_zero, List.set_cons_succ, List.eraseIdx_cons_zero, List.eraseIdx_cons_succ]
    refine ld_pt (k := 1) hs rfl rfl ?_
    simp only [nn_some, add_mk, Nat.zero_add, Nat.add_zero, Nat.reduceAdd, Nat.reduceMul, Option.isNone_some, Option.isNone_none, br_true, br_false, Bool.not_true, Bool.not_false, xI_eq, xB_eq, xS_eq, xP_eq, xL_eq, x0_eq, x2_eq, x3_eq, chk_eq, true_and, and_true, List.set_cons_zero, List.set_cons_succ, List.eraseIdx_cons_zero, List.eraseIdx_cons_succ]
    refine ⟨fun us w' => ∃ j : Nat, us = [.string .empty, .int .i64 0, .pointer (some ⟨p, 0, none⟩), .agg ⟨headCells h⟩, .int .i64 j] ∧ j ≤ 4 ∧ St W w' (buf p ((headL h).take (8 * j)) :: pt r (headCells h) :: L),
      fun us _ => match us with | [_, _, _, _, .int _ j] => 4 - j.toNat | _ => 0, ⟨0, rfl, Nat.zero_le _, hs⟩, ?_⟩
    rintro s1 n5 a1 cs3 n6 w2 ⟨j, he, hj, hs⟩
    cases he
    refine br_of (fun h0 => ?_) (fun h0 => ?_)
    · have hj4 : j < 4 := by have := of_decide_eq_true h0; omega
      have e5 : IntKind.i64.wrap ((j : Int) + 1) = ((j + 1 : Nat) : Int) := by rw [wrap_id (by omega)]; omega
      obtain ⟨n, hn, hstep⟩ : ∃ n, (headCells h)[(j : Int).toNat]? = some (.int .i64 n) ∧ (headL h).take (8 * j) ++ le .i64 8 n = (headL h).take (8 * (j + 1)) := by
        have hshape : headL h = le .i64 8 h.turn ++ (le .i64 8 h.number ++ (le .i64 8 h.size ++ le .i64 8 h.seq)) := by simp only [headL, List.append_assoc]
        have ll : ∀ n, (le .i64 8 n).length = 8 := fun n => le_length _ _ _
        match j, hj4 with
        | 0, _ => exact ⟨h.turn, rfl, by rw [hshape, List.take_append_of_le_length (by rw [ll]; omega), List.take_append_of_le_length (by rw [ll]; omega), List.take_of_length_le (l := le .i64 8 h.turn) (i := 8 * (0 + 1)) (by rw [ll]; omega)]; simp⟩
        | 1, _ => exact ⟨h.number, rfl, by simp only [headL, List.take_append, ll, List.length_append]; simp [List.take_of_length_le, ll]⟩
        | 2, _ => exact ⟨h.size, rfl, by simp only [headL, List.take_append, ll, List.length_append]; simp [List.take_of_length_le, ll]⟩
        | 3, _ => exact ⟨h.seq, rfl, by simp only [headL, List.take_append, ll, List.length_append]; simp [List.take_of_length_le, ll]⟩
      refine ⟨.int .i64 n, ⟨by omega, by omega, hn⟩, ?_⟩
      simp only [nn_some, add_mk, Nat.zero_add, Nat.add_zero, Nat.reduceAdd, Nat.reduceMul, Option.isNone_some, Option.isNone_none, br_true, br_false, Bool.not_true, Bool.not_false, xI_eq, xB_eq, xS_eq, xP_eq, xL_eq, x0_eq, x2_eq, x3_eq, chk_eq, true_and, and_true, List.set_cons_zero, List.set_cons_succ, List.eraseIdx_cons_zero, List.eraseIdx_cons_succ]
      refine Writer_Int_spec (k := 0) hs rfl (by rw [List.length_take]; omega) fun w hs => ?_
      rw [show (min2 (max2 8 1) 8).toNat = 8 from rfl, hstep] at hs
      simp only [nn_some, add_mk, Nat.zero_add, Nat.add_zero, Nat.reduceAdd, Nat.reduceMul, Option.isNone_some, Option.isNone_none, br_true, br_false, Bool.not_true, Bool.not_false, xI_eq, xB_eq, xS_eq, xP_eq, xL_eq, x0_eq, x2_eq, x3_eq, chk_eq, true_and, and_true, List.set_cons_zero, List.set_cons_succ, List.eraseIdx_cons_zero, List.eraseIdx_cons_succ] at hs ⊢
      rw [e5]
      exact ⟨⟨j + 1, rfl, by omega, hs⟩, by omega⟩
    · have hj4 : j = 4 := by have := of_decide_eq_false h0; omega
      subst hj4
      rw [List.take_of_length_le (by rw [headL_length]; omega)] at hs
      refine Writer_String_spec (k := 0) hs rfl ?_
      simp only [nn_some, add_mk, Nat.zero_add, Nat.add_zero, Nat.reduceAdd, Nat.reduceMul, Option.isNone_some, Option.isNone_none, br_true, br_false, Bool.not_true, Bool.not_false, xI_eq, xB_eq, xS_eq, xP_eq, xL_eq, x0_eq, x2_eq, x3_eq, chk_eq, true_and, and_true, List.set_cons_zero, List.set_cons_succ, List.eraseIdx_cons_zero, List.eraseIdx_cons_succ]
      exact hK w2 hs.drop.drop
  · rw [if_neg hg] at hK
    rw [decide_eq_false hg]
    simp only [nn_some, add_mk, Nat.zero_add, Nat.add_zero, Nat.reduceAdd, Nat.reduceMul, Option.isNone_some, Option.isNone_none, br_true, br_false, Bool.not_true, Bool.not_false, xI_eq, xB_eq, xS_eq, xP_eq, xL_eq, x0_eq, x2_eq, x3_eq, chk_eq, true_and, and_true, List.set_cons_zero, List.set_cons_succ, List.eraseIdx_cons_zero, List.eraseIdx_cons_succ]
    exact hK w hs.drop
end
end Go.Sep

/- Layer 8: heads read, put, told. -/
namespace Go.Sep
open Go.Den Go.RowKit Go.Prog Go.Plat
set_option linter.unusedSimpArgs false
set_option linter.unusedVariables false

theorem readV_some' {l : List UInt8} {n j : Int} {d : ByteArray} (h : readV l = some (n, j, d)) : d.size ≤ 104 := by
  unfold readV at h
  split at h
  · cases h
  split at h
  · cases h
  split at h
  · cases h
  split at h
  · cases h
  split at h
  · cases h
  split at h
  · cases h
  rename_i h6
  cases h
  exact (Decidable.not_not.1 h6).2.2.2.2

/-- A reader's state behind eight bytes more. -/
def nx (x : List UInt8 × Bool) : List UInt8 × Bool := if x.2 = true ∨ x.1.length < 8 then (x.1, true) else (x.1.drop 8, false)
def nv (x : List UInt8 × Bool) : Int := if x.2 = true ∨ x.1.length < 8 then 0 else numL (x.1.take 8)

section
variable {W w : World} {L : List HP} {k d : Nat} {D : Disk}

theorem Int8_spec {r : Nat} {x : List UInt8 × Bool} {K : VK} (h : St W w L) (hk : L[k]? = some (rdr r (bs x.1) x.2)) (hl : x.1.length < 1099511627776)
    (hK : ∀ w', St W w' (L.set k (rdr r (bs (nx x).1) (nx x).2)) → K (.int .i64 (nv x)) w') : tape_Reader_Int (some ⟨r, 0, none⟩) 8 K w := by
  refine Int_spec h hk ?_
  have em : min2 (max2 8 1) 8 = ((8 : Nat) : Int) := rfl
  rw [em]
  obtain ⟨l, t⟩ := x
  unfold nx nv at hK
  dsimp only at hK hl ⊢
  by_cases hc : t = true ∨ l.length < 8
  · rw [if_pos hc, if_pos hc] at hK
    have et : rawT (bs l) t ((8 : Nat) : Int) = true := by
      unfold rawT
      rcases hc with h1 | h1
      · rw [h1]; rfl
      · rw [bs_size, decide_eq_true (by omega)]; simp
    unfold rawS rawV
    rw [et, if_pos rfl, if_pos rfl]
    exact hK
  · rw [if_neg hc, if_neg hc] at hK
    have ht : t = false := by cases t <;> simp_all
    have et : rawT (bs l) t ((8 : Nat) : Int) = false := by
      unfold rawT
      rw [ht, bs_size, decide_eq_false (by omega)]; rfl
    unfold rawS rawV
    rw [et, Int.toNat_natCast, bs_extract0, bs_extractN]
    exact hK

theorem End_spec {r : Nat} {x : List UInt8 × Bool} {K : VK} (h : St W w L) (hk : L[k]? = some (rdr r (bs x.1) x.2)) (hK : K (.bool (!x.2 && decide (x.1 = []))) w) : tape_Reader_End (some ⟨r, 0, none⟩) K w := by
  unfold rdr at hk
  unfold tape_Reader_End
  simp only [nn_some, add_mk, Nat.zero_add, Nat.add_zero, Nat.reduceAdd, Nat.reduceMul, Option.isNone_some, Option.isNone_none, br_true, br_false, Bool.not_true, Bool.not_false, xI_eq, xB_eq, xS_eq, xP_eq, xL_eq, x0_eq, x2_eq, x3_eq, chk_eq, true_and, and_true, List.set_cons_zero, List.set_cons_succ, List.eraseIdx_cons_zero, List.eraseIdx_cons_succ]
  refine ld_pt h hk rfl ?_
  simp only [nn_some, add_mk, Nat.zero_add, Nat.add_zero, Nat.reduceAdd, Nat.reduceMul, Option.isNone_some, Option.isNone_none, br_true, br_false, Bool.not_true, Bool.not_false, xI_eq, xB_eq, xS_eq, xP_eq, xL_eq, x0_eq, x2_eq, x3_eq, chk_eq, true_and, and_true, List.set_cons_zero, List.set_cons_succ, List.eraseIdx_cons_zero, List.eraseIdx_cons_succ]
  obtain ⟨l, t⟩ := x
  cases t with
  | true => exact hK
  | false =>
    simp only [nn_some, add_mk, Nat.zero_add, Nat.add_zero, Nat.reduceAdd, Nat.reduceMul, Option.isNone_some, Option.isNone_none, br_true, br_false, Bool.not_true, Bool.not_false, xI_eq, xB_eq, xS_eq, xP_eq, xL_eq, x0_eq, x2_eq, x3_eq, chk_eq, true_and, and_true, List.set_cons_zero, List.set_cons_succ, List.eraseIdx_cons_zero, List.eraseIdx_cons_succ]
    refine ld_pt h hk rfl ?_
    simp only [nn_some, add_mk, Nat.zero_add, Nat.add_zero, Nat.reduceAdd, Nat.reduceMul, Option.isNone_some, Option.isNone_none, br_true, br_false, Bool.not_true, Bool.not_false, xI_eq, xB_eq, xS_eq, xP_eq, xL_eq, x0_eq, x2_eq, x3_eq, chk_eq, true_and, and_true, List.set_cons_zero, List.set_cons_succ, List.eraseIdx_cons_zero, List.eraseIdx_cons_succ]
    have hem : (⟨#[]⟩ : ByteArray) = bs [] := rfl
    have e : decide (bs l = bs []) = decide (l = []) := by rw [decide_eq_decide]; exact bs_inj
    rw [strEq_iff, hem, e]
    exact hK

theorem nx_back {x : List UInt8 × Bool} (h : (nx x).2 = false) : x.2 = false ∧ 8 ≤ x.1.length ∧ (nx x).1.length + 8 = x.1.length := by
  unfold nx at h ⊢
  by_cases hc : x.2 = true ∨ x.1.length < 8
  · rw [if_pos hc] at h; cases h
  · rw [if_neg hc]
    have h1 : x.2 = false := by cases hx : x.2 with
      | true => exact absurd (.inl hx) hc
      | false => rfl
    have h2 : 8 ≤ x.1.length := by
      by_cases hh : 8 ≤ x.1.length
      · exact hh
      · exact absurd (.inr (by omega)) hc
    refine ⟨h1, h2, ?_⟩
    show (x.1.drop 8).length + 8 = x.1.length
    rw [List.length_drop]; omega

theorem nx4_end {l : List UInt8} (h : l.length ≠ 32) : (!(nx (nx (nx (nx (l, false))))).2 && decide ((nx (nx (nx (nx (l, false))))).1 = [])) = false := by
  cases h4 : (nx (nx (nx (nx (l, false))))).2 with
  | true => rfl
  | false =>
    obtain ⟨b3, c3, d3⟩ := nx_back h4
    obtain ⟨b2, c2, d2⟩ := nx_back b3
    obtain ⟨b1, c1, d1⟩ := nx_back b2
    obtain ⟨b0, c0, d0⟩ := nx_back b1
    have hne : (nx (nx (nx (nx (l, false))))).1 ≠ [] := fun he => by
      rw [he, List.length_nil] at d3
      dsimp only at d0
      omega
    rw [decide_eq_false hne]; rfl

theorem nx4_32 {l : List UInt8} (h : l.length = 32) : nx (l, false) = (l.drop 8, false) ∧ nx (l.drop 8, false) = ((l.drop 8).drop 8, false) ∧ nx ((l.drop 8).drop 8, false) = (((l.drop 8).drop 8).drop 8, false) ∧ nx (((l.drop 8).drop 8).drop 8, false) = ([], false) ∧
    nv (l, false) = numL (l.take 8) ∧ nv (l.drop 8, false) = numL ((l.drop 8).take 8) ∧ nv ((l.drop 8).drop 8, false) = numL (((l.drop 8).drop 8).take 8) ∧ nv (((l.drop 8).drop 8).drop 8, false) = numL ((((l.drop 8).drop 8).drop 8).take 8) := by
  have l1 : (l.drop 8).length = 24 := by rw [List.length_drop]; omega
  have l2 : ((l.drop 8).drop 8).length = 16 := by rw [List.length_drop, l1]
  have l3 : (((l.drop 8).drop 8).drop 8).length = 8 := by rw [List.length_drop, l2]
  have l4 : (((l.drop 8).drop 8).drop 8).drop 8 = [] := List.drop_eq_nil_iff.2 (by omega)
  unfold nx nv
  refine ⟨?_, ?_, ?_, ?_, ?_, ?_, ?_, ?_⟩
  · rw [if_neg (by simp; omega)]
  · rw [if_neg (by simp only [Bool.false_eq_true, false_or]; omega)]
  · rw [if_neg (by simp only [Bool.false_eq_true, false_or]; omega)]
  · rw [if_neg (by simp only [Bool.false_eq_true, false_or]; omega), l4]
  · rw [if_neg (by simp; omega)]
  · rw [if_neg (by simp only [Bool.false_eq_true, false_or]; omega)]
  · rw [if_neg (by simp only [Bool.false_eq_true, false_or]; omega)]
  · rw [if_neg (by simp only [Bool.false_eq_true, false_or]; omega)]

theorem nx_len (x : List UInt8 × Bool) : (nx x).1.length ≤ x.1.length := by unfold nx; split <;> simp

theorem cRead_spec {l : List UInt8} {K : VK} (hs : St W w L) (hl : l.length < 1099511627776) (hK : ∀ w', St W w' L → K (headRes (readH l)) w') : crown_Read (bs l) K w := by
  unfold crown_Read
  refine mk_of hs fun r1 w hs => ?_
  refine tRead_spec hs fun q w hs => ?_
  simp only [nn_some, add_mk, Nat.zero_add, Nat.add_zero, Nat.reduceAdd, Nat.reduceMul, Option.isNone_some, Option.isNone_none, br_true, br_false, Bool.not_true, Bool.not_false, xI_eq, xB_eq, xS_eq, xP_eq, xL_eq, x0_eq, x2_eq, x3_eq, chk_eq, true_and, and_true, List.set_cons_zero, List.set_cons_succ, List.eraseIdx_cons_zero, List.eraseIdx_cons_succ]
  have n1 := nx_len (l, false)
  have n2 := nx_len (nx (l, false))
  have n3 := nx_len (nx (nx (l, false)))
  dsimp only at n1
  refine Int8_spec (k := 0) (x := (l, false)) hs rfl hl fun w hs => ?_
  simp only [nn_some, add_mk, Nat.zero_add, Nat.add_zero, Nat.reduceAdd, Nat.reduceMul, Option.isNone_some, Option.isNone_none, br_true, br_false, Bool.not_true, Bool.not_false, xI_eq, xB_eq, xS_eq, xP_eq, xL_eq, x0_eq, x2_eq, x3_eq, chk_eq, true_and, and_true, List.set_cons_zero, List.set_cons_succ, List.eraseIdx_cons_zero, List.eraseIdx_cons_succ] at hs ⊢
  refine Int8_spec (k := 0) (x := nx (l, false)) hs rfl (by omega) fun w hs => ?_
  simp only [nn_some, add_mk, Nat.zero_add, Nat.add_zero, Nat.reduceAdd, Nat.reduceMul, Option.isNone_some, Option.isNone_none, br_true, br_false, Bool.not_true, Bool.not_false, xI_eq, xB_eq, xS_eq, xP_eq, xL_eq, x0_eq, x2_eq, x3_eq, chk_eq, true_and, and_true, List.set_cons_zero, List.set_cons_succ, List.eraseIdx_cons_zero, List.eraseIdx_cons_succ] at hs ⊢
  refine Int8_spec (k := 0) (x := nx (nx (l, false))) hs rfl (by omega) fun w hs => ?_
  simp only [nn_some, add_mk, Nat.zero_add, Nat.add_zero, Nat.reduceAdd, Nat.reduceMul, Option.isNone_some, Option.isNone_none, br_true, br_false, Bool.not_true, Bool.not_false, xI_eq, xB_eq, xS_eq, xP_eq, xL_eq, x0_eq, x2_eq, x3_eq, chk_eq, true_and, and_true, List.set_cons_zero, List.set_cons_succ, List.eraseIdx_cons_zero, List.eraseIdx_cons_succ] at hs ⊢
  refine Int8_spec (k := 0) (x := nx (nx (nx (l, false)))) hs rfl (by omega) fun w hs => ?_
  simp only [nn_some, add_mk, Nat.zero_add, Nat.add_zero, Nat.reduceAdd, Nat.reduceMul, Option.isNone_some, Option.isNone_none, br_true, br_false, Bool.not_true, Bool.not_false, xI_eq, xB_eq, xS_eq, xP_eq, xL_eq, x0_eq, x2_eq, x3_eq, chk_eq, true_and, and_true, List.set_cons_zero, List.set_cons_succ, List.eraseIdx_cons_zero, List.eraseIdx_cons_succ] at hs ⊢
  refine mk_of hs fun r2 w hs => ?_
  refine ⟨by simp, ?_⟩
  refine stN_pt (k := 0) hs rfl (Nat.le_of_ble_eq_true rfl) (by simp [Value.oneCell']) fun w hs => ?_
  rw [over_all (by simp)] at hs
  simp only [nn_some, add_mk, Nat.zero_add, Nat.add_zero, Nat.reduceAdd, Nat.reduceMul, Option.isNone_some, Option.isNone_none, br_true, br_false, Bool.not_true, Bool.not_false, xI_eq, xB_eq, xS_eq, xP_eq, xL_eq, x0_eq, x2_eq, x3_eq, chk_eq, true_and, and_true, List.set_cons_zero, List.set_cons_succ, List.eraseIdx_cons_zero, List.eraseIdx_cons_succ] at hs
  refine End_spec (k := 1) (x := nx (nx (nx (nx (l, false))))) hs rfl ?_
  simp only [nn_some, add_mk, Nat.zero_add, Nat.add_zero, Nat.reduceAdd, Nat.reduceMul, Option.isNone_some, Option.isNone_none, br_true, br_false, Bool.not_true, Bool.not_false, xI_eq, xB_eq, xS_eq, xP_eq, xL_eq, x0_eq, x2_eq, x3_eq, chk_eq, true_and, and_true, List.set_cons_zero, List.set_cons_succ, List.eraseIdx_cons_zero, List.eraseIdx_cons_succ]
  have fail : ∀ w A B, (∀ w', St W w' L → K (headRes none) w') → St W w (A :: B :: pt r1 [.int .i64 0, .int .i64 0, .int .i64 0, .int .i64 0] :: L) → stN ⟨r1, 0, none⟩ [.int .i64 0, .int .i64 0, .int .i64 0, .int .i64 0] (ldN ⟨r1, 0, none⟩ 4 fun cs => K (.tuple ⟨[.agg ⟨cs⟩, .bool false]⟩)) w := fun w A B hK hs => by
    refine stN_pt (k := 2) hs rfl (Nat.le_of_ble_eq_true rfl) (by simp [Value.oneCell']) fun w hs => ?_
    rw [over_all (by simp)] at hs
    refine ldN_pt (k := 2) (xs := [.int .i64 0, .int .i64 0, .int .i64 0, .int .i64 0]) hs rfl rfl (fun j v hj => by rw [Nat.zero_add]; exact hj) ?_
    exact hK w hs.drop.drop.drop
  unfold readH at hK
  by_cases h32 : l.length = 32
  · obtain ⟨a1, a2, a3, a4, b1, b2, b3, b4⟩ := nx4_32 h32
    rw [a1, a2, a3, a4] at hs ⊢
    rw [b1, b2, b3, b4] at hs
    have ee : (!((([] : List UInt8), false) : List UInt8 × Bool).2 && decide ((((([] : List UInt8), false) : List UInt8 × Bool)).1 = [])) = true := by decide
    rw [ee]
    simp only [nn_some, add_mk, Nat.zero_add, Nat.add_zero, Nat.reduceAdd, Nat.reduceMul, Option.isNone_some, Option.isNone_none, br_true, br_false, Bool.not_true, Bool.not_false, xI_eq, xB_eq, xS_eq, xP_eq, xL_eq, x0_eq, x2_eq, x3_eq, chk_eq, true_and, and_true, List.set_cons_zero, List.set_cons_succ, List.eraseIdx_cons_zero, List.eraseIdx_cons_succ]
    have hs : St W w (pt r2 (headCells (headOf l)) :: rdr q (bs []) false :: pt r1 [.int .i64 0, .int .i64 0, .int .i64 0, .int .i64 0] :: L) := hs
    refine ldN_pt (k := 0) (xs := headCells (headOf l)) hs rfl rfl (fun j v hj => by rw [Nat.zero_add]; exact hj) ?_
    refine cGood_spec hs fun w hs => ?_
    simp only [nn_some, add_mk, Nat.zero_add, Nat.add_zero, Nat.reduceAdd, Nat.reduceMul, Option.isNone_some, Option.isNone_none, br_true, br_false, Bool.not_true, Bool.not_false, xI_eq, xB_eq, xS_eq, xP_eq, xL_eq, x0_eq, x2_eq, x3_eq, chk_eq, true_and, and_true, List.set_cons_zero, List.set_cons_succ, List.eraseIdx_cons_zero, List.eraseIdx_cons_succ]
    by_cases hg : HGood (headOf l)
    · rw [if_pos ⟨h32, hg⟩] at hK
      rw [decide_eq_true hg]
      simp only [nn_some, add_mk, Nat.zero_add, Nat.add_zero, Nat.reduceAdd, Nat.reduceMul, Option.isNone_some, Option.isNone_none, br_true, br_false, Bool.not_true, Bool.not_false, xI_eq, xB_eq, xS_eq, xP_eq, xL_eq, x0_eq, x2_eq, x3_eq, chk_eq, true_and, and_true, List.set_cons_zero, List.set_cons_succ, List.eraseIdx_cons_zero, List.eraseIdx_cons_succ]
      refine ldN_pt (k := 0) (xs := headCells (headOf l)) hs rfl rfl (fun j v hj => by rw [Nat.zero_add]; exact hj) ?_
      refine ⟨rfl, ?_⟩
      refine stN_pt (k := 2) hs rfl (Nat.le_of_ble_eq_true rfl) (by simp [Value.oneCell', headCells]) fun w hs => ?_
      rw [over_all (by simp [headCells])] at hs
      simp only [nn_some, add_mk, Nat.zero_add, Nat.add_zero, Nat.reduceAdd, Nat.reduceMul, Option.isNone_some, Option.isNone_none, br_true, br_false, Bool.not_true, Bool.not_false, xI_eq, xB_eq, xS_eq, xP_eq, xL_eq, x0_eq, x2_eq, x3_eq, chk_eq, true_and, and_true, List.set_cons_zero, List.set_cons_succ, List.eraseIdx_cons_zero, List.eraseIdx_cons_succ] at hs
      refine ldN_pt (k := 2) (xs := headCells (headOf l)) hs rfl rfl (fun j v hj => by rw [Nat.zero_add]; exact hj) ?_
      exact hK w hs.drop.drop.drop
    · rw [if_neg (fun hh => hg hh.2)] at hK
      rw [decide_eq_false hg]
      simp only [nn_some, add_mk, Nat.zero_add, Nat.add_zero, Nat.reduceAdd, Nat.reduceMul, Option.isNone_some, Option.isNone_none, br_true, br_false, Bool.not_true, Bool.not_false, xI_eq, xB_eq, xS_eq, xP_eq, xL_eq, x0_eq, x2_eq, x3_eq, chk_eq, true_and, and_true, List.set_cons_zero, List.set_cons_succ, List.eraseIdx_cons_zero, List.eraseIdx_cons_succ]
      exact fail w _ _ hK hs
  · rw [if_neg (fun hh => h32 hh.1)] at hK
    rw [nx4_end h32]
    simp only [nn_some, add_mk, Nat.zero_add, Nat.add_zero, Nat.reduceAdd, Nat.reduceMul, Option.isNone_some, Option.isNone_none, br_true, br_false, Bool.not_true, Bool.not_false, xI_eq, xB_eq, xS_eq, xP_eq, xL_eq, x0_eq, x2_eq, x3_eq, chk_eq, true_and, and_true, List.set_cons_zero, List.set_cons_succ, List.eraseIdx_cons_zero, List.eraseIdx_cons_succ]
    exact fail w _ _ hK hs

/-- What stands at a place. -/
def atH (D : Disk) (i : Nat) : Option PHead :=
  match readV (D.read (i : Int)).1.data.toList with
  | none => none
  | some (_, j, d) => if (D.read (i : Int)).2 ≠ 0 ∨ j ≠ 0 then none else match readH d.data.toList with
    | none => none
    | some h => if low h.turn ≠ i then none else some h

theorem at_spec {i : Nat} {K : VK} (hs : St W w L) (hk : L[k]? = some (disk d D)) (hok : D.Ok) (hK : ∀ w', St W w' L → K (headRes (atH D i)) w') : crown_at (some ⟨d, 0, none⟩) i K w := by
  unfold crown_at
  refine mk_of hs fun r1 w hs => ?_
  have hk1 : (pt r1 [.int .i64 0, .int .i64 0, .int .i64 0, .int .i64 0] :: L)[k + 1]? = some (disk d D) := by rw [List.getElem?_cons_succ]; exact hk
  refine Disk_Read_spec (k := k + 1) hs hk1 hok ?_
  simp only [nn_some, add_mk, Nat.zero_add, Nat.add_zero, Nat.reduceAdd, Nat.reduceMul, Option.isNone_some, Option.isNone_none, br_true, br_false, Bool.not_true, Bool.not_false, xI_eq, xB_eq, xS_eq, xP_eq, xL_eq, x0_eq, x2_eq, x3_eq, chk_eq, true_and, and_true, List.set_cons_zero, List.set_cons_succ, List.eraseIdx_cons_zero, List.eraseIdx_cons_succ]
  have fail : ∀ w A, (∀ w', St W w' L → K (headRes none) w') → St W w (A :: pt r1 [.int .i64 0, .int .i64 0, .int .i64 0, .int .i64 0] :: L) → stN ⟨r1, 0, none⟩ [.int .i64 0, .int .i64 0, .int .i64 0, .int .i64 0] (ldN ⟨r1, 0, none⟩ 4 fun cs => K (.tuple ⟨[.agg ⟨cs⟩, .bool false]⟩)) w := fun w A hK hs => by
    refine stN_pt (k := 1) hs rfl (Nat.le_of_ble_eq_true rfl) (by simp [Value.oneCell']) fun w hs => ?_
    rw [over_all (by simp)] at hs
    refine ldN_pt (k := 1) (xs := [.int .i64 0, .int .i64 0, .int .i64 0, .int .i64 0]) hs rfl rfl (fun j v hj => by rw [Nat.zero_add]; exact hj) ?_
    exact hK w hs.drop.drop
  have failj : ∀ w r2 A, (∀ w', St W w' L → K (headRes none) w') → St W w (A :: pt r1 [.int .i64 0, .int .i64 0, .int .i64 0, .int .i64 0] :: L) → crown_at.j1 K r1 r2 i true w := fun w r2 A hK hs => by
    unfold crown_at.j1
    simp only [nn_some, add_mk, Nat.zero_add, Nat.add_zero, Nat.reduceAdd, Nat.reduceMul, Option.isNone_some, Option.isNone_none, br_true, br_false, Bool.not_true, Bool.not_false, xI_eq, xB_eq, xS_eq, xP_eq, xL_eq, x0_eq, x2_eq, x3_eq, chk_eq, true_and, and_true, List.set_cons_zero, List.set_cons_succ, List.eraseIdx_cons_zero, List.eraseIdx_cons_succ]
    exact fail w A hK hs
  have hxs : (D.read (i : Int)).1.size < 1099511627776 := by
    by_cases hi : D.is (i : Int)
    · have := read_size hok hi; omega
    · unfold Disk.read; rw [if_neg hi]; decide
  unfold atH at hK
  generalize hx : (D.read (i : Int)).1 = x at *
  generalize he : (D.read (i : Int)).2 = e at *
  rw [show x = bs x.data.toList from rfl]
  refine Read_spec hs (by rw [toList_length]; exact hxs) fun w hs => ?_
  cases hv : readV x.data.toList with
  | none =>
    rw [hv] at hK
    unfold readRes
    simp only [nn_some, add_mk, Nat.zero_add, Nat.add_zero, Nat.reduceAdd, Nat.reduceMul, Option.isNone_some, Option.isNone_none, br_true, br_false, Bool.not_true, Bool.not_false, xI_eq, xB_eq, xS_eq, xP_eq, xL_eq, x0_eq, x2_eq, x3_eq, chk_eq, true_and, and_true, List.set_cons_zero, List.set_cons_succ, List.eraseIdx_cons_zero, List.eraseIdx_cons_succ]
    simp only [xA_eq, List.length_cons, List.length_nil, Nat.zero_add, Nat.reduceAdd, true_and]
    simp only [nn_some, add_mk, Nat.zero_add, Nat.add_zero, Nat.reduceAdd, Nat.reduceMul, Option.isNone_some, Option.isNone_none, br_true, br_false, Bool.not_true, Bool.not_false, xI_eq, xB_eq, xS_eq, xP_eq, xL_eq, x0_eq, x2_eq, x3_eq, chk_eq, true_and, and_true, List.set_cons_zero, List.set_cons_succ, List.eraseIdx_cons_zero, List.eraseIdx_cons_succ]
    refine mk_of hs fun r2 w hs => ?_
    refine ⟨trivial, stN_pt (k := 0) hs rfl (Nat.le_of_ble_eq_true rfl) (by simp [Value.oneCell']) fun w hs => ?_⟩
    simp only [nn_some, add_mk, Nat.zero_add, Nat.add_zero, Nat.reduceAdd, Nat.reduceMul, Option.isNone_some, Option.isNone_none, br_true, br_false, Bool.not_true, Bool.not_false, xI_eq, xB_eq, xS_eq, xP_eq, xL_eq, x0_eq, x2_eq, x3_eq, chk_eq, true_and, and_true, List.set_cons_zero, List.set_cons_succ, List.eraseIdx_cons_zero, List.eraseIdx_cons_succ] at hs
    refine br_ne (fun _ => failj w r2 _ hK hs) (fun _ => ?_)
    exact failj w r2 _ hK hs
  | some y =>
    obtain ⟨m, j, dd⟩ := y
    rw [hv] at hK
    dsimp only at hK
    unfold readRes
    simp only [nn_some, add_mk, Nat.zero_add, Nat.add_zero, Nat.reduceAdd, Nat.reduceMul, Option.isNone_some, Option.isNone_none, br_true, br_false, Bool.not_true, Bool.not_false, xI_eq, xB_eq, xS_eq, xP_eq, xL_eq, x0_eq, x2_eq, x3_eq, chk_eq, true_and, and_true, List.set_cons_zero, List.set_cons_succ, List.eraseIdx_cons_zero, List.eraseIdx_cons_succ]
    simp only [xA_eq, List.length_cons, List.length_nil, Nat.zero_add, Nat.reduceAdd, true_and]
    simp only [nn_some, add_mk, Nat.zero_add, Nat.add_zero, Nat.reduceAdd, Nat.reduceMul, Option.isNone_some, Option.isNone_none, br_true, br_false, Bool.not_true, Bool.not_false, xI_eq, xB_eq, xS_eq, xP_eq, xL_eq, x0_eq, x2_eq, x3_eq, chk_eq, true_and, and_true, List.set_cons_zero, List.set_cons_succ, List.eraseIdx_cons_zero, List.eraseIdx_cons_succ]
    refine mk_of hs fun r2 w hs => ?_
    refine ⟨trivial, stN_pt (k := 0) hs rfl (Nat.le_of_ble_eq_true rfl) (by simp [Value.oneCell']) fun w hs => ?_⟩
    rw [over_all (by simp)] at hs
    simp only [nn_some, add_mk, Nat.zero_add, Nat.add_zero, Nat.reduceAdd, Nat.reduceMul, Option.isNone_some, Option.isNone_none, br_true, br_false, Bool.not_true, Bool.not_false, xI_eq, xB_eq, xS_eq, xP_eq, xL_eq, x0_eq, x2_eq, x3_eq, chk_eq, true_and, and_true, List.set_cons_zero, List.set_cons_succ, List.eraseIdx_cons_zero, List.eraseIdx_cons_succ] at hs
    refine br_ne (fun hne => ?_) (fun h0 => ?_)
    · rw [if_pos (.inl hne)] at hK
      exact failj w r2 _ hK hs
    refine ld_pt (k := 0) hs rfl rfl ?_
    simp only [nn_some, add_mk, Nat.zero_add, Nat.add_zero, Nat.reduceAdd, Nat.reduceMul, Option.isNone_some, Option.isNone_none, br_true, br_false, Bool.not_true, Bool.not_false, xI_eq, xB_eq, xS_eq, xP_eq, xL_eq, x0_eq, x2_eq, x3_eq, chk_eq, true_and, and_true, List.set_cons_zero, List.set_cons_succ, List.eraseIdx_cons_zero, List.eraseIdx_cons_succ]
    by_cases hj : j = 0
    · rw [if_neg (by rintro (h | h); exact h h0; exact h hj)] at hK
      have ej : (j != 0) = false := by simp [hj]
      rw [ej]
      unfold crown_at.j1
      simp only [nn_some, add_mk, Nat.zero_add, Nat.add_zero, Nat.reduceAdd, Nat.reduceMul, Option.isNone_some, Option.isNone_none, br_true, br_false, Bool.not_true, Bool.not_false, xI_eq, xB_eq, xS_eq, xP_eq, xL_eq, x0_eq, x2_eq, x3_eq, chk_eq, true_and, and_true, List.set_cons_zero, List.set_cons_succ, List.eraseIdx_cons_zero, List.eraseIdx_cons_succ]
      refine ld_pt (k := 0) hs rfl rfl ?_
      simp only [nn_some, add_mk, Nat.zero_add, Nat.add_zero, Nat.reduceAdd, Nat.reduceMul, Option.isNone_some, Option.isNone_none, br_true, br_false, Bool.not_true, Bool.not_false, xI_eq, xB_eq, xS_eq, xP_eq, xL_eq, x0_eq, x2_eq, x3_eq, chk_eq, true_and, and_true, List.set_cons_zero, List.set_cons_succ, List.eraseIdx_cons_zero, List.eraseIdx_cons_succ]
      rw [show dd = bs dd.data.toList from rfl]
      refine cRead_spec hs (by
        rw [toList_length]
        have := (readV_some' hv)
        omega) fun w hs => ?_
      cases hh : readH dd.data.toList with
      | none =>
        rw [hh] at hK
        unfold headRes
        simp only [nn_some, add_mk, Nat.zero_add, Nat.add_zero, Nat.reduceAdd, Nat.reduceMul, Option.isNone_some, Option.isNone_none, br_true, br_false, Bool.not_true, Bool.not_false, xI_eq, xB_eq, xS_eq, xP_eq, xL_eq, x0_eq, x2_eq, x3_eq, chk_eq, true_and, and_true, List.set_cons_zero, List.set_cons_succ, List.eraseIdx_cons_zero, List.eraseIdx_cons_succ]
        simp only [xA_eq]
        refine ⟨rfl, ?_⟩
        simp only [nn_some, add_mk, Nat.zero_add, Nat.add_zero, Nat.reduceAdd, Nat.reduceMul, Option.isNone_some, Option.isNone_none, br_true, br_false, Bool.not_true, Bool.not_false, xI_eq, xB_eq, xS_eq, xP_eq, xL_eq, x0_eq, x2_eq, x3_eq, chk_eq, true_and, and_true, List.set_cons_zero, List.set_cons_succ, List.eraseIdx_cons_zero, List.eraseIdx_cons_succ]
        refine mk_of hs fun r3 w hs => ?_
        refine ⟨by simp [headCells], stN_pt (k := 0) hs rfl (Nat.le_of_ble_eq_true rfl) (by simp [Value.oneCell', headCells]) fun w hs => ?_⟩
        rw [over_all (by simp [headCells])] at hs
        simp only [nn_some, add_mk, Nat.zero_add, Nat.add_zero, Nat.reduceAdd, Nat.reduceMul, Option.isNone_some, Option.isNone_none, br_true, br_false, Bool.not_true, Bool.not_false, xI_eq, xB_eq, xS_eq, xP_eq, xL_eq, x0_eq, x2_eq, x3_eq, chk_eq, true_and, and_true, List.set_cons_zero, List.set_cons_succ, List.eraseIdx_cons_zero, List.eraseIdx_cons_succ] at hs
        refine ⟨trivial, by simp, ?_⟩
        refine stN_pt (k := 2) hs rfl (Nat.le_of_ble_eq_true rfl) (by simp [Value.oneCell']) fun w hs => ?_
        rw [over_all (by simp)] at hs
        simp only [nn_some, add_mk, Nat.zero_add, Nat.add_zero, Nat.reduceAdd, Nat.reduceMul, Option.isNone_some, Option.isNone_none, br_true, br_false, Bool.not_true, Bool.not_false, xI_eq, xB_eq, xS_eq, xP_eq, xL_eq, x0_eq, x2_eq, x3_eq, chk_eq, true_and, and_true, List.set_cons_zero, List.set_cons_succ, List.eraseIdx_cons_zero, List.eraseIdx_cons_succ] at hs
        refine ldN_pt (k := 2) (xs := [.int .i64 0, .int .i64 0, .int .i64 0, .int .i64 0]) hs rfl rfl (fun j v hj => by rw [Nat.zero_add]; exact hj) ?_
        exact hK w hs.drop.drop.drop
      | some hd =>
        rw [hh] at hK
        dsimp only at hK
        unfold headRes
        simp only [nn_some, add_mk, Nat.zero_add, Nat.add_zero, Nat.reduceAdd, Nat.reduceMul, Option.isNone_some, Option.isNone_none, br_true, br_false, Bool.not_true, Bool.not_false, xI_eq, xB_eq, xS_eq, xP_eq, xL_eq, x0_eq, x2_eq, x3_eq, chk_eq, true_and, and_true, List.set_cons_zero, List.set_cons_succ, List.eraseIdx_cons_zero, List.eraseIdx_cons_succ]
        simp only [xA_eq]
        refine ⟨rfl, ?_⟩
        simp only [nn_some, add_mk, Nat.zero_add, Nat.add_zero, Nat.reduceAdd, Nat.reduceMul, Option.isNone_some, Option.isNone_none, br_true, br_false, Bool.not_true, Bool.not_false, xI_eq, xB_eq, xS_eq, xP_eq, xL_eq, x0_eq, x2_eq, x3_eq, chk_eq, true_and, and_true, List.set_cons_zero, List.set_cons_succ, List.eraseIdx_cons_zero, List.eraseIdx_cons_succ]
        refine mk_of hs fun r3 w hs => ?_
        refine ⟨by simp [headCells], stN_pt (k := 0) hs rfl (Nat.le_of_ble_eq_true rfl) (by simp [Value.oneCell', headCells]) fun w hs => ?_⟩
        rw [over_all (by simp [headCells])] at hs
        simp only [nn_some, add_mk, Nat.zero_add, Nat.add_zero, Nat.reduceAdd, Nat.reduceMul, Option.isNone_some, Option.isNone_none, br_true, br_false, Bool.not_true, Bool.not_false, xI_eq, xB_eq, xS_eq, xP_eq, xL_eq, x0_eq, x2_eq, x3_eq, chk_eq, true_and, and_true, List.set_cons_zero, List.set_cons_succ, List.eraseIdx_cons_zero, List.eraseIdx_cons_succ] at hs
        refine ld_pt (k := 0) hs rfl rfl ?_
        simp only [nn_some, add_mk, Nat.zero_add, Nat.add_zero, Nat.reduceAdd, Nat.reduceMul, Option.isNone_some, Option.isNone_none, br_true, br_false, Bool.not_true, Bool.not_false, xI_eq, xB_eq, xS_eq, xP_eq, xL_eq, x0_eq, x2_eq, x3_eq, chk_eq, true_and, and_true, List.set_cons_zero, List.set_cons_succ, List.eraseIdx_cons_zero, List.eraseIdx_cons_succ]
        refine br_ne (fun hne => ?_) (fun heq => ?_)
        · rw [if_pos (show low hd.turn ≠ (i : Int) from hne)] at hK
          refine ⟨trivial, by simp, ?_⟩
          refine stN_pt (k := 2) hs rfl (Nat.le_of_ble_eq_true rfl) (by simp [Value.oneCell']) fun w hs => ?_
          rw [over_all (by simp)] at hs
          simp only [nn_some, add_mk, Nat.zero_add, Nat.add_zero, Nat.reduceAdd, Nat.reduceMul, Option.isNone_some, Option.isNone_none, br_true, br_false, Bool.not_true, Bool.not_false, xI_eq, xB_eq, xS_eq, xP_eq, xL_eq, x0_eq, x2_eq, x3_eq, chk_eq, true_and, and_true, List.set_cons_zero, List.set_cons_succ, List.eraseIdx_cons_zero, List.eraseIdx_cons_succ] at hs
          refine ldN_pt (k := 2) (xs := [.int .i64 0, .int .i64 0, .int .i64 0, .int .i64 0]) hs rfl rfl (fun j v hj => by rw [Nat.zero_add]; exact hj) ?_
          exact hK w hs.drop.drop.drop
        · rw [if_neg (show ¬ low hd.turn ≠ (i : Int) from fun hh => hh heq)] at hK
          refine ldN_pt (k := 0) (xs := headCells hd) hs rfl rfl (fun j v hj => by rw [Nat.zero_add]; exact hj) ?_
          refine ⟨rfl, ?_⟩
          refine stN_pt (k := 2) hs rfl (Nat.le_of_ble_eq_true rfl) (by simp [Value.oneCell', headCells]) fun w hs => ?_
          rw [over_all (by simp [headCells])] at hs
          simp only [nn_some, add_mk, Nat.zero_add, Nat.add_zero, Nat.reduceAdd, Nat.reduceMul, Option.isNone_some, Option.isNone_none, br_true, br_false, Bool.not_true, Bool.not_false, xI_eq, xB_eq, xS_eq, xP_eq, xL_eq, x0_eq, x2_eq, x3_eq, chk_eq, true_and, and_true, List.set_cons_zero, List.set_cons_succ, List.eraseIdx_cons_zero, List.eraseIdx_cons_succ] at hs
          refine ldN_pt (k := 2) (xs := headCells hd) hs rfl rfl (fun j v hj => by rw [Nat.zero_add]; exact hj) ?_
          exact hK w hs.drop.drop.drop
    · rw [if_pos (.inr hj)] at hK
      have ej : (j != 0) = true := by simp [hj]
      rw [ej]
      exact failj w r2 _ hK hs
end
end Go.Sep
