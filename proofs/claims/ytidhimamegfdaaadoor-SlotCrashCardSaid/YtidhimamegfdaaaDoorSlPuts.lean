/- The law SlotPuts. -/
import Derived.Test.YtidhimamegfdaaaDoorSlOver
namespace Go.Sep
open Go.Den Go.RowKit Go.Prog Go.Plat
set_option linter.unusedSimpArgs false
set_option linter.unusedVariables false

def jour : ByteArray := ⟨#[106, 111, 117, 114, 110, 97, 108]⟩

/-- What a put answers, and leaves. -/
theorem put_any {n : Nat} {D : Disk} {which number : Int} {s : ByteArray} (h : Calm n D) (h12 : 12 ≤ n) (h4096 : n ≤ 4096) (hnum : 1 ≤ number ∧ number ≤ 1152921504606846976) :
    Calm n (put D n which number s).1 ∧ (∀ j : Nat, j < n → (j < slotAt n which ∨ slotAt n which + pSize n ≤ j) → ((put D n which number s).1.read (j : Int)).1 = (D.read (j : Int)).1) ∧
    ((cnt s.size ≤ pSize n ∧ (put D n which number s).2 = 0 ∧ ∀ q : Nat, q < cnt s.size → ((put D n which number s).1.read (((slotAt n which : Nat) : Int) + q)).1 = leaf number q (part s q)) ∨
     (¬ cnt s.size ≤ pSize n ∧ (put D n which number s) = (D, 3))) := by
  by_cases hf : cnt s.size ≤ pSize n
  · obtain ⟨p1, p2, p3, p4⟩ := put_fits (which := which) (number := number) h h12 h4096 hnum hf
    exact ⟨p2, p4, .inl ⟨hf, p1, p3⟩⟩
  · have e := put_long (which := which) (number := number) (s := s) h h12 hnum (by omega)
    rw [e]
    exact ⟨h, fun _ _ _ => rfl, .inr ⟨hf, rfl⟩⟩

theorem leaf_not {number m j : Int} {i : Nat} {s d : ByteArray} (hnum : 1 ≤ number ∧ number ≤ 1152921504606846976) (hi : i < 4096) (hv : readV (leaf number i (part s i)).data.toList = some (m, j, d)) : m = number := by
  have hg : Good number i (part s i) := ⟨hnum.1, hnum.2, by omega, by omega, part_size s i⟩
  unfold leaf at hv
  rw [if_pos hg] at hv
  have := (readV_leaf hg).symm.trans hv
  cases this
  rfl

section
variable {W w : World} {L : List HP}

theorem Fits_spec {n m : Nat} {K : VK} (h : St W w L) (hm : m < 1099511627776000) (hK : ∀ w', St W w' L → K (.bool (decide (cnt m ≤ pSize n))) w') : slot_Plan_Fits (planCells n) m K w := by
  unfold slot_Plan_Fits
  refine mk_of h fun r w hs => ?_
  refine tick_of hs fun w hs => ?_
  refine br_dec (fun _ => ?_) (fun hh => by omega)
  refine ld_pt (k := 0) hs rfl rfl ?_
  simp only [nn_some, add_mk, Nat.zero_add, Nat.add_zero, Nat.reduceAdd, Nat.reduceMul, Option.isNone_some, Option.isNone_none, br_true, br_false, Bool.not_true, Bool.not_false, xI_eq, xB_eq, xS_eq, xP_eq, xL_eq, x0_eq, x2_eq, x3_eq, chk_eq, true_and, and_true, List.set_cons_zero, List.set_cons_succ, List.eraseIdx_cons_zero, List.eraseIdx_cons_succ]
  refine Count_spec (by omega) ?_
  simp only [nn_some, add_mk, Nat.zero_add, Nat.add_zero, Nat.reduceAdd, Nat.reduceMul, Option.isNone_some, Option.isNone_none, br_true, br_false, Bool.not_true, Bool.not_false, xI_eq, xB_eq, xS_eq, xP_eq, xL_eq, x0_eq, x2_eq, x3_eq, chk_eq, true_and, and_true, List.set_cons_zero, List.set_cons_succ, List.eraseIdx_cons_zero, List.eraseIdx_cons_succ]
  refine kp_one (k := 0) hs rfl rfl ?_
  have e : decide (((cnt m : Nat) : Int) ≤ ((pSize n : Nat) : Int)) = decide (cnt m ≤ pSize n) := by rw [decide_eq_decide]; omega
  rw [e]
  exact hK w hs.drop

theorem Puts_spec {n which number : Int} {a b : ByteArray} {K : VK} (h : St W w L) (ha : a.size ≤ reachBytes) (hb : b.size ≤ reachBytes) (hK : ∀ w', St W w' L → K (.bool true) w') : bondstorelaw07_SlotPuts n a b which number K w := by
  have ha' : a.size ≤ 140737488351232 := ha
  have hb' : b.size ≤ 140737488351232 := hb
  unfold bondstorelaw07_SlotPuts
  refine alive7_spec h fun w h => ?_
  simp only [nn_some, add_mk, Nat.zero_add, Nat.add_zero, Nat.reduceAdd, Nat.reduceMul, Option.isNone_some, Option.isNone_none, br_true, br_false, Bool.not_true, Bool.not_false, xI_eq, xB_eq, xS_eq, xP_eq, xL_eq, x0_eq, x2_eq, x3_eq, chk_eq, true_and, and_true, List.set_cons_zero, List.set_cons_succ, List.eraseIdx_cons_zero, List.eraseIdx_cons_succ]
  have go : ∀ c, (c = false → 12 ≤ n ∧ n ≤ 60 ∧ 1 ≤ number ∧ number ≤ 1099511627776) → bondstorelaw07_SlotPuts.j1 K n which number a b c w := fun c hc => by
    unfold bondstorelaw07_SlotPuts.j1
    refine br_of (fun _ => hK w h) (fun hf => ?_)
    obtain ⟨h12, h60, hn1, hn2⟩ := hc hf
    obtain ⟨m, rfl⟩ := Int.eq_ofNat_of_zero_le (show 0 ≤ n by omega)
    have m12 : 12 ≤ m := by omega
    have m4096 : m ≤ 4096 := by omega
    have hps : 2 + 2 * pSize m < m := by unfold pSize; omega
    refine Of_spec (n := m) h m12 m4096 fun w h => ?_
    simp only [nn_some, add_mk, Nat.zero_add, Nat.add_zero, Nat.reduceAdd, Nat.reduceMul, Option.isNone_some, Option.isNone_none, br_true, br_false, Bool.not_true, Bool.not_false, xI_eq, xB_eq, xS_eq, xP_eq, xL_eq, x0_eq, x2_eq, x3_eq, chk_eq, true_and, and_true, List.set_cons_zero, List.set_cons_succ, List.eraseIdx_cons_zero, List.eraseIdx_cons_succ]
    simp only [xA_eq]
    refine ⟨rfl, ?_⟩
    simp only [nn_some, add_mk, Nat.zero_add, Nat.add_zero, Nat.reduceAdd, Nat.reduceMul, Option.isNone_some, Option.isNone_none, br_true, br_false, Bool.not_true, Bool.not_false, xI_eq, xB_eq, xS_eq, xP_eq, xL_eq, x0_eq, x2_eq, x3_eq, chk_eq, true_and, and_true, List.set_cons_zero, List.set_cons_succ, List.eraseIdx_cons_zero, List.eraseIdx_cons_succ]
    refine mk_of h fun r w hs => ?_
    refine ⟨rfl, stN_pt (k := 0) hs rfl (Nat.le_of_ble_eq_true rfl) (by simp [Value.oneCell', planCells]) fun w hs => ?_⟩
    rw [over_all (by simp [planCells])] at hs
    simp only [nn_some, add_mk, Nat.zero_add, Nat.add_zero, Nat.reduceAdd, Nat.reduceMul, Option.isNone_some, Option.isNone_none, br_true, br_false, Bool.not_true, Bool.not_false, xI_eq, xB_eq, xS_eq, xP_eq, xL_eq, x0_eq, x2_eq, x3_eq, chk_eq, true_and, and_true, List.set_cons_zero, List.set_cons_succ, List.eraseIdx_cons_zero, List.eraseIdx_cons_succ] at hs
    refine New_spec hs fun d w hs => ?_
    simp only [nn_some, add_mk, Nat.zero_add, Nat.add_zero, Nat.reduceAdd, Nat.reduceMul, Option.isNone_some, Option.isNone_none, br_true, br_false, Bool.not_true, Bool.not_false, xI_eq, xB_eq, xS_eq, xP_eq, xL_eq, x0_eq, x2_eq, x3_eq, chk_eq, true_and, and_true, List.set_cons_zero, List.set_cons_succ, List.eraseIdx_cons_zero, List.eraseIdx_cons_succ]
    have hcm := calm_new m4096
    refine ld_pt (k := 1) hs rfl (v := .int .i64 (2 + 2 * pSize m : Nat)) rfl ?_
    simp only [nn_some, add_mk, Nat.zero_add, Nat.add_zero, Nat.reduceAdd, Nat.reduceMul, Option.isNone_some, Option.isNone_none, br_true, br_false, Bool.not_true, Bool.not_false, xI_eq, xB_eq, xS_eq, xP_eq, xL_eq, x0_eq, x2_eq, x3_eq, chk_eq, true_and, and_true, List.set_cons_zero, List.set_cons_succ, List.eraseIdx_cons_zero, List.eraseIdx_cons_succ]
    have hwl := write_len (Disk.new m) ((2 + 2 * pSize m : Nat) : Int) jour
    have hcm1 : Calm m ((Disk.new m).write ((2 + 2 * pSize m : Nat) : Int) jour).1 :=
      ⟨write_ok hcm.ok _ _ (by have := hcm.later; omega), Dk.write0_arm hcm.arm _ _, by have h0 : (Disk.new m).later.length = 0 := rfl; omega, by rw [hwl.1]; exact hcm.len⟩
    have hrd : ∀ j : Nat, j < m → (((Disk.new m).write ((2 + 2 * pSize m : Nat) : Int) jour).1.read (j : Int)).1 = if j = 2 + 2 * pSize m then Disk.pad jour else zeros 128 := fun j hj => by
      have h1 : ((Disk.new m).write ((2 + 2 * pSize m : Nat) : Int) jour).1.is (j : Int) := ⟨by omega, by rw [hcm1.len]; omega⟩
      have h2 : (Disk.new m).is ((2 + 2 * pSize m : Nat) : Int) := ⟨by omega, by rw [hcm.len]; omega⟩
      have h3 : (Disk.new m).is (j : Int) := ⟨by omega, by rw [hcm.len]; omega⟩
      have hz := new_read m4096 hj
      unfold Disk.read at hz ⊢
      rw [if_pos h3] at hz
      rw [if_pos h1, Dk.now_write0 hcm.arm]
      by_cases hjj : j = 2 + 2 * pSize m
      · rw [if_pos hjj, if_pos ⟨⟨h2, by decide⟩, by omega⟩]
      · rw [if_neg hjj, if_neg (fun hh => hjj (by omega))]
        exact hz
    refine Disk_Write_spec (k := 0) hs rfl hcm.ok fun w hs => ?_
    simp only [nn_some, add_mk, Nat.zero_add, Nat.add_zero, Nat.reduceAdd, Nat.reduceMul, Option.isNone_some, Option.isNone_none, br_true, br_false, Bool.not_true, Bool.not_false, xI_eq, xB_eq, xS_eq, xP_eq, xL_eq, x0_eq, x2_eq, x3_eq, chk_eq, true_and, and_true, List.set_cons_zero, List.set_cons_succ, List.eraseIdx_cons_zero, List.eraseIdx_cons_succ] at hs ⊢
    have hjo : (⟨#[106, 111, 117, 114, 110, 97, 108]⟩ : ByteArray) = jour := rfl
    rw [hjo] at hs
    generalize ((Disk.new m).write ((2 + 2 * pSize m : Nat) : Int) jour).1 = D1 at *
    refine tick_of hs fun w hs => ?_
    refine ldN_pt (k := 1) (xs := planCells m) hs rfl rfl (fun j v hj => by rw [Nat.zero_add]; exact hj) ?_
    refine ldN_pt (k := 1) (xs := planCells m) hs rfl rfl (fun j v hj => by rw [Nat.zero_add]; exact hj) ?_
    have en : IntKind.i64.wrap (number + 1) = number + 1 := wrap_id (by omega)
    rw [en]
    refine Put_spec (n := m) (k := 0) hs rfl hcm1.ok m12 m4096 (by have := hcm1.later; omega) ha fun w hs => ?_
    simp only [nn_some, add_mk, Nat.zero_add, Nat.add_zero, Nat.reduceAdd, Nat.reduceMul, Option.isNone_some, Option.isNone_none, br_true, br_false, Bool.not_true, Bool.not_false, xI_eq, xB_eq, xS_eq, xP_eq, xL_eq, x0_eq, x2_eq, x3_eq, chk_eq, true_and, and_true, List.set_cons_zero, List.set_cons_succ, List.eraseIdx_cons_zero, List.eraseIdx_cons_succ] at hs ⊢
    refine kp_pt (k := 1) hs rfl (fun j v hj => by rw [Nat.zero_add]; exact hj) ?_
    obtain ⟨p1, p2, p3⟩ := put_any (which := which) (number := number) (s := a) hcm1 m12 m4096 ⟨hn1, by omega⟩
    obtain ⟨q1, q2, q3⟩ := put_any (which := isum .i64 .xor which 1) (number := number + 1) (s := b) p1 m12 m4096 ⟨by omega, by omega⟩
    refine Put_spec (n := m) (k := 0) hs rfl p1.ok m12 m4096 (by have := p1.later; omega) hb fun w hs => ?_
    simp only [nn_some, add_mk, Nat.zero_add, Nat.add_zero, Nat.reduceAdd, Nat.reduceMul, Option.isNone_some, Option.isNone_none, br_true, br_false, Bool.not_true, Bool.not_false, xI_eq, xB_eq, xS_eq, xP_eq, xL_eq, x0_eq, x2_eq, x3_eq, chk_eq, true_and, and_true, List.set_cons_zero, List.set_cons_succ, List.eraseIdx_cons_zero, List.eraseIdx_cons_succ] at hs ⊢
    have hin := slotAt_in m12 which
    have hin2 := slotAt_in m12 (isum .i64 .xor which 1)
    have hap := slot_apart (n := m) (isum .i64 .xor which 1) which (by rw [low_flip]; have := low_in which; omega)
    have hslot : ∀ v, slotAt m v + pSize m ≤ 2 + 2 * pSize m := fun v => by unfold slotAt; split <;> omega
    have hsl1 := hslot which
    have hsl2 := hslot (isum .i64 .xor which 1)
    have hcp1 := cnt_pos a.size
    have hcp2 := cnt_pos b.size
    have e0 : ∀ v : Nat, ((v : Nat) : Int) + ((0 : Nat) : Int) = ((v : Nat) : Int) := fun v => by omega
    -- what the gets tell
    have ga : (cnt a.size ≤ pSize m ∧ (put D1 m which number a).2 = 0 ∧ get (put (put D1 m which number a).1 m (isum .i64 .xor which 1) (number + 1) b).1 m which number a.size = some a.data.toList) ∨
        (¬ cnt a.size ≤ pSize m ∧ (put D1 m which number a).2 = 3 ∧ get (put (put D1 m which number a).1 m (isum .i64 .xor which 1) (number + 1) b).1 m which number a.size = none) := by
      rcases p3 with ⟨f1, f2, f3⟩ | ⟨f1, f2⟩
      · refine .inl ⟨f1, f2, get_all q1.len m12 m4096 ⟨hn1, by omega⟩ f1 fun q hq => ?_⟩
        have := q2 (slotAt m which + q) (by omega) (by omega)
        rw [show (((slotAt m which : Nat) : Int) + (q : Int)) = ((slotAt m which + q : Nat) : Int) from by omega, this, show ((slotAt m which + q : Nat) : Int) = ((slotAt m which : Nat) : Int) + (q : Int) from by omega]
        exact f3 q hq
      · refine .inr ⟨f1, by rw [f2], get_other fun x j dd hv => ?_⟩
        rw [e0, q2 _ (by omega) (by omega), f2, hrd _ (by omega), if_neg (by omega), readV_zeros] at hv
        cases hv
    have gb : (cnt b.size ≤ pSize m ∧ (put (put D1 m which number a).1 m (isum .i64 .xor which 1) (number + 1) b).2 = 0 ∧ get (put (put D1 m which number a).1 m (isum .i64 .xor which 1) (number + 1) b).1 m (isum .i64 .xor which 1) (number + 1) b.size = some b.data.toList) ∨
        (¬ cnt b.size ≤ pSize m ∧ (put (put D1 m which number a).1 m (isum .i64 .xor which 1) (number + 1) b).2 = 3 ∧ get (put (put D1 m which number a).1 m (isum .i64 .xor which 1) (number + 1) b).1 m (isum .i64 .xor which 1) (number + 1) b.size = none) := by
      rcases q3 with ⟨f1, f2, f3⟩ | ⟨f1, f2⟩
      · exact .inl ⟨f1, f2, get_all q1.len m12 m4096 ⟨by omega, by omega⟩ f1 f3⟩
      · refine .inr ⟨f1, by rw [f2], get_other fun x j dd hv => ?_⟩
        rw [e0, f2, p2 _ (by omega) (by omega), hrd _ (by omega), if_neg (by omega), readV_zeros] at hv
        cases hv
    have gc : get (put (put D1 m which number a).1 m (isum .i64 .xor which 1) (number + 1) b).1 m which (number + 1) a.size = none := get_other fun x j dd hv => by
      rw [e0, q2 _ (by omega) (by omega)] at hv
      rcases p3 with ⟨f1, f2, f3⟩ | ⟨f1, f2⟩
      · have := f3 0 (by omega)
        rw [e0] at this
        rw [this] at hv
        have := leaf_not ⟨hn1, by omega⟩ (by decide) hv
        omega
      · rw [f2, hrd _ (by omega), if_neg (by omega), readV_zeros] at hv
        cases hv
    have gj : ((put (put D1 m which number a).1 m (isum .i64 .xor which 1) (number + 1) b).1.read ((2 + 2 * pSize m : Nat) : Int)).1 = Disk.pad jour := by
      rw [q2 _ (by omega) (by omega), p2 _ (by omega) (by omega), hrd _ (by omega), if_pos rfl]
    generalize (put D1 m which number a).2 = ea at *
    generalize (put (put D1 m which number a).1 m (isum .i64 .xor which 1) (number + 1) b).2 = eb at *
    generalize (put (put D1 m which number a).1 m (isum .i64 .xor which 1) (number + 1) b).1 = D3 at *
    have tail : ∀ w, St W w (disk d D3 :: pt r (planCells m) :: L) → bondstorelaw07_SlotPuts.j2 K r (some ⟨d, 0, none⟩) which number a w := fun w hs => by
      unfold bondstorelaw07_SlotPuts.j2
      simp only [nn_some, add_mk, Nat.zero_add, Nat.add_zero, Nat.reduceAdd, Nat.reduceMul, Option.isNone_some, Option.isNone_none, br_true, br_false, Bool.not_true, Bool.not_false, xI_eq, xB_eq, xS_eq, xP_eq, xL_eq, x0_eq, x2_eq, x3_eq, chk_eq, true_and, and_true, List.set_cons_zero, List.set_cons_succ, List.eraseIdx_cons_zero, List.eraseIdx_cons_succ]
      refine ld_pt (k := 1) hs rfl (v := .int .i64 (2 + 2 * pSize m : Nat)) rfl ?_
      simp only [nn_some, add_mk, Nat.zero_add, Nat.add_zero, Nat.reduceAdd, Nat.reduceMul, Option.isNone_some, Option.isNone_none, br_true, br_false, Bool.not_true, Bool.not_false, xI_eq, xB_eq, xS_eq, xP_eq, xL_eq, x0_eq, x2_eq, x3_eq, chk_eq, true_and, and_true, List.set_cons_zero, List.set_cons_succ, List.eraseIdx_cons_zero, List.eraseIdx_cons_succ]
      refine Disk_Read_spec (k := 0) hs rfl q1.ok ?_
      rw [gj, en]
      simp only [nn_some, add_mk, Nat.zero_add, Nat.add_zero, Nat.reduceAdd, Nat.reduceMul, Option.isNone_some, Option.isNone_none, br_true, br_false, Bool.not_true, Bool.not_false, xI_eq, xB_eq, xS_eq, xP_eq, xL_eq, x0_eq, x2_eq, x3_eq, chk_eq, true_and, and_true, List.set_cons_zero, List.set_cons_succ, List.eraseIdx_cons_zero, List.eraseIdx_cons_succ]
      refine ldN_pt (k := 1) (xs := planCells m) hs rfl rfl (fun j v hj => by rw [Nat.zero_add]; exact hj) ?_
      refine Get_spec (n := m) (k := 0) hs rfl q1.ok m12 m4096 fun w hs => ?_
      rw [gc]
      unfold takeRes
      simp only [nn_some, add_mk, Nat.zero_add, Nat.add_zero, Nat.reduceAdd, Nat.reduceMul, Option.isNone_some, Option.isNone_none, br_true, br_false, Bool.not_true, Bool.not_false, xI_eq, xB_eq, xS_eq, xP_eq, xL_eq, x0_eq, x2_eq, x3_eq, chk_eq, true_and, and_true, List.set_cons_zero, List.set_cons_succ, List.eraseIdx_cons_zero, List.eraseIdx_cons_succ]
      refine ldN_pt (k := 1) (xs := planCells m) hs rfl rfl (fun j v hj => by rw [Nat.zero_add]; exact hj) ?_
      unfold slot_Plan_Put
      refine mk_of hs fun r5 w hs => ?_
      simp only [nn_some, add_mk, Nat.zero_add, Nat.add_zero, Nat.reduceAdd, Nat.reduceMul, Option.isNone_some, Option.isNone_none, br_true, br_false, Bool.not_true, Bool.not_false, xI_eq, xB_eq, xS_eq, xP_eq, xL_eq, x0_eq, x2_eq, x3_eq, chk_eq, true_and, and_true, List.set_cons_zero, List.set_cons_succ, List.eraseIdx_cons_zero, List.eraseIdx_cons_succ]
      refine ldN_pt (k := 2) (xs := planCells m) hs rfl rfl (fun j v hj => by rw [Nat.zero_add]; exact hj) ?_
      unfold slot_Plan_Get
      refine mk_of hs fun r6 w hs => ?_
      simp only [nn_some, add_mk, Nat.zero_add, Nat.add_zero, Nat.reduceAdd, Nat.reduceMul, Option.isNone_some, Option.isNone_none, br_true, br_false, Bool.not_true, Bool.not_false, xI_eq, xB_eq, xS_eq, xP_eq, xL_eq, x0_eq, x2_eq, x3_eq, chk_eq, true_and, and_true, List.set_cons_zero, List.set_cons_succ, List.eraseIdx_cons_zero, List.eraseIdx_cons_succ]
      unfold slStr
      dsimp only
      refine ⟨by decide +kernel, ?_⟩
      have ej : strEq ((Disk.pad jour).extract 0 (7 : Int).toNat) (⟨#[106, 111, 117, 114, 110, 97, 108]⟩ : ByteArray) = true := by
        rw [strEq_iff]; decide +kernel
      have ee : strEq ByteArray.empty (⟨#[]⟩ : ByteArray) = true := by rw [strEq_iff]; exact decide_eq_true rfl
      rw [ej, ee, br_true, br_true]
      rw [beq_self_eq_true, br_true]
      exact hK w hs.drop.drop.drop.drop
    refine ldN_pt (k := 1) (xs := planCells m) hs rfl rfl (fun j v hj => by rw [Nat.zero_add]; exact hj) ?_
    refine Get_spec (n := m) (k := 0) hs rfl q1.ok m12 m4096 fun w hs => ?_
    have s3 : ((3 : Int) == 0) = false := rfl
    rcases ga with ⟨fa, rfl, ga⟩ | ⟨fa, rfl, ga⟩ <;> rcases gb with ⟨fb, rfl, gb⟩ | ⟨fb, rfl, gb⟩ <;>
    ( rw [ga]
      unfold takeRes
      simp only [nn_some, add_mk, Nat.zero_add, Nat.add_zero, Nat.reduceAdd, Nat.reduceMul, Option.isNone_some, Option.isNone_none, br_true, br_false, Bool.not_true, Bool.not_false, xI_eq, xB_eq, xS_eq, xP_eq, xL_eq, x0_eq, x2_eq, x3_eq, chk_eq, true_and, and_true, List.set_cons_zero, List.set_cons_succ, List.eraseIdx_cons_zero, List.eraseIdx_cons_succ]
      refine ldN_pt (k := 1) (xs := planCells m) hs rfl rfl (fun j v hj => by rw [Nat.zero_add]; exact hj) ?_
      refine Get_spec (n := m) (k := 0) hs rfl q1.ok m12 m4096 fun w hs => ?_
      rw [gb]
      unfold takeRes
      simp only [nn_some, add_mk, Nat.zero_add, Nat.add_zero, Nat.reduceAdd, Nat.reduceMul, Option.isNone_some, Option.isNone_none, br_true, br_false, Bool.not_true, Bool.not_false, xI_eq, xB_eq, xS_eq, xP_eq, xL_eq, x0_eq, x2_eq, x3_eq, chk_eq, true_and, and_true, List.set_cons_zero, List.set_cons_succ, List.eraseIdx_cons_zero, List.eraseIdx_cons_succ]
      refine ldN_pt (k := 1) (xs := planCells m) hs rfl rfl (fun j v hj => by rw [Nat.zero_add]; exact hj) ?_
      refine Fits_spec hs (by omega) fun w hs => ?_
      simp only [nn_some, add_mk, Nat.zero_add, Nat.add_zero, Nat.reduceAdd, Nat.reduceMul, Option.isNone_some, Option.isNone_none, br_true, br_false, Bool.not_true, Bool.not_false, xI_eq, xB_eq, xS_eq, xP_eq, xL_eq, x0_eq, x2_eq, x3_eq, chk_eq, true_and, and_true, List.set_cons_zero, List.set_cons_succ, List.eraseIdx_cons_zero, List.eraseIdx_cons_succ]
      first | rw [decide_eq_true fa] | rw [decide_eq_false fa]
      simp only [beq_self_eq_true, s3, Bool.not_true, br_false, br_true, Bool.not_false]
      refine ldN_pt (k := 1) (xs := planCells m) hs rfl rfl (fun j v hj => by rw [Nat.zero_add]; exact hj) ?_
      refine Fits_spec hs (by omega) fun w hs => ?_
      simp only [nn_some, add_mk, Nat.zero_add, Nat.add_zero, Nat.reduceAdd, Nat.reduceMul, Option.isNone_some, Option.isNone_none, br_true, br_false, Bool.not_true, Bool.not_false, xI_eq, xB_eq, xS_eq, xP_eq, xL_eq, x0_eq, x2_eq, x3_eq, chk_eq, true_and, and_true, List.set_cons_zero, List.set_cons_succ, List.eraseIdx_cons_zero, List.eraseIdx_cons_succ]
      first | rw [decide_eq_true fb] | rw [decide_eq_false fb]
      simp only [beq_self_eq_true, s3, Bool.not_true, br_false, br_true, Bool.not_false, bs_data, strEq_iff, decide_eq_true, bne_self_eq_false]
      exact tail w hs)
  refine br_dec (fun h1 => go _ (fun hf => by cases hf)) (fun h1 => ?_)
  refine br_dec (fun h2 => go _ (fun hf => by cases hf)) (fun h2 => ?_)
  refine br_dec (fun h3 => go _ (fun hf => by cases hf)) (fun h3 => ?_)
  refine br_dec (fun h4 => go _ (fun hf => by cases hf)) (fun h4 => ?_)
  exact go _ (fun hf => ⟨by omega, by omega, by omega, by have := of_decide_eq_false hf; omega⟩)

theorem Puts_ok {a0 a3 a4 : Int} {a1 a2 : ByteArray} (_ : (Lit.int .i64 a0).wf = true) (w1 : a1.size ≤ reachBytes) (w2 : a2.size ≤ reachBytes) (_ : (Lit.int .i64 a3).wf = true) (_ : (Lit.int .i64 a4).wf = true) :
    bondstorelaw07_SlotPuts.u [.int .i64 a0, .string a1, .string a2, .int .i64 a3, .int .i64 a4] (fun v w' => v = .bool true ∧ Below W.heap.size W w') W := by
  unfold bondstorelaw07_SlotPuts.u
  exact Puts_spec (K := fun v w' => v = .bool true ∧ Below W.heap.size W w') (St.start W) w1 w2 (fun w' h => ⟨rfl, h.below⟩)
end
end Go.Sep
