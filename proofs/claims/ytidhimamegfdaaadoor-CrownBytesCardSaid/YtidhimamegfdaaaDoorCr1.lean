/- Layer 8: heads read, put, told. -/
import Derived.Test.YtidhimamegfdaaaDoorCr0
namespace Go.Sep
open Go.Den Go.RowKit Go.Prog Go.Plat
set_option linter.unusedSimpArgs false
set_option linter.unusedVariables false

theorem readV_some' {l : List UInt8} {n j : Int} {d : ByteArray} (h : readV l = some (n, j, d)) : d.size ≤ 104 := by
  unfold readV at h
  split at h
  · cases h
  split at h
  · cases h
  split at h
  · cases h
  split at h
  · cases h
  split at h
  · cases h
  split at h
  · cases h
  rename_i h6
  cases h
  exact (Decidable.not_not.1 h6).2.2.2.2

/-- A reader's state behind eight bytes more. -/
def nx (x : List UInt8 × Bool) : List UInt8 × Bool := if x.2 = true ∨ x.1.length < 8 then (x.1, true) else (x.1.drop 8, false)
def nv (x : List UInt8 × Bool) : Int := if x.2 = true ∨ x.1.length < 8 then 0 else numL (x.1.take 8)

section
variable {W w : World} {L : List HP} {k d : Nat} {D : Disk}

theorem Int8_spec {r : Nat} {x : List UInt8 × Bool} {K : VK} (h : St W w L) (hk : L[k]? = some (rdr r (bs x.1) x.2)) (hl : x.1.length < 1099511627776)
    (hK : ∀ w', St W w' (L.set k (rdr r (bs (nx x).1) (nx x).2)) → K (.int .i64 (nv x)) w') : tape_Reader_Int (some ⟨r, 0, none⟩) 8 K w := by
  refine Int_spec h hk ?_
  have em : min2 (max2 8 1) 8 = ((8 : Nat) : Int) := rfl
  rw [em]
  obtain ⟨l, t⟩ := x
  unfold nx nv at hK
  dsimp only at hK hl ⊢
  by_cases hc : t = true ∨ l.length < 8
  · rw [if_pos hc, if_pos hc] at hK
    have et : rawT (bs l) t ((8 : Nat) : Int) = true := by
      unfold rawT
      rcases hc with h1 | h1
      · rw [h1]; rfl
      · rw [bs_size, decide_eq_true (by omega)]; simp
    unfold rawS rawV
    rw [et, if_pos rfl, if_pos rfl]
    exact hK
  · rw [if_neg hc, if_neg hc] at hK
    have ht : t = false := by cases t <;> simp_all
    have et : rawT (bs l) t ((8 : Nat) : Int) = false := by
      unfold rawT
      rw [ht, bs_size, decide_eq_false (by omega)]; rfl
    unfold rawS rawV
    rw [et, Int.toNat_natCast, bs_extract0, bs_extractN]
    exact hK

theorem End_spec {r : Nat} {x : List UInt8 × Bool} {K : VK} (h : St W w L) (hk : L[k]? = some (rdr r (bs x.1) x.2)) (hK : K (.bool (!x.2 && decide (x.1 = []))) w) : tape_Reader_End (some ⟨r, 0, none⟩) K w := by
  unfold rdr at hk
  unfold tape_Reader_End
  simp only [nn_some, add_mk, Nat.zero_add, Nat.add_zero, Nat.reduceAdd, Nat.reduceMul, Option.isNone_some, Option.isNone_none, br_true, br_false, Bool.not_true, Bool.not_false, xI_eq, xB_eq, xS_eq, xP_eq, xL_eq, x0_eq, x2_eq, x3_eq, chk_eq, true_and, and_true, List.set_cons_zero, List.set_cons_succ, List.eraseIdx_cons_zero, List.eraseIdx_cons_succ]
  refine ld_pt h hk rfl ?_
  simp only [nn_some, add_mk, Nat.zero_add, Nat.add_zero, Nat.reduceAdd, Nat.reduceMul, Option.isNone_some, Option.isNone_none, br_true, br_false, Bool.not_true, Bool.not_false, xI_eq, xB_eq, xS_eq, xP_eq, xL_eq, x0_eq, x2_eq, x3_eq, chk_eq, true_and, and_true, List.set_cons_zero, List.set_cons_succ, List.eraseIdx_cons_zero, List.eraseIdx_cons_succ]
  obtain ⟨l, t⟩ := x
  cases t with
  | true => exact hK
  | false =>
    simp only [nn_some, add_mk, Nat.zero_add, Nat.add_zero, Nat.reduceAdd, Nat.reduceMul, Option.isNone_some, Option.isNone_none, br_true, br_false, Bool.not_true, Bool.not_false, xI_eq, xB_eq, xS_eq, xP_eq, xL_eq, x0_eq, x2_eq, x3_eq, chk_eq, true_and, and_true, List.set_cons_zero, List.set_cons_succ, List.eraseIdx_cons_zero, List.eraseIdx_cons_succ]
    refine ld_pt h hk rfl ?_
    simp only [nn_some, add_mk, Nat.zero_add, Nat.add_zero, Nat.reduceAdd, Nat.reduceMul, Option.isNone_some, Option.isNone_none, br_true, br_false, Bool.not_true, Bool.not_false, xI_eq, xB_eq, xS_eq, xP_eq, xL_eq, x0_eq, x2_eq, x3_eq, chk_eq, true_and, and_true, List.set_cons_zero, List.set_cons_succ, List.eraseIdx_cons_zero, List.eraseIdx_cons_succ]
    have hem : (⟨#[]⟩ : ByteArray) = bs [] := rfl
    have e : decide (bs l = bs []) = decide (l = []) := by rw [decide_eq_decide]; exact bs_inj
    rw [strEq_iff, hem, e]
    exact hK

theorem nx_back {x : List UInt8 × Bool} (h : (nx x).2 = false) : x.2 = false ∧ 8 ≤ x.1.length ∧ (nx x).1.length + 8 = x.1.length := by
  unfold nx at h ⊢
  by_cases hc : x.2 = true ∨ x.1.length < 8
  · rw [if_pos hc] at h; cases h
  · rw [if_neg hc]
    have h1 : x.2 = false := by cases hx : x.2 with
      | true => exact absurd (.inl hx) hc
      | false => rfl
    have h2 : 8 ≤ x.1.length := by
      by_cases hh : 8 ≤ x.1.length
      · exact hh
      · exact absurd (.inr (by omega)) hc
    refine ⟨h1, h2, ?_⟩
    show (x.1.drop 8).length + 8 = x.1.length
    rw [List.length_drop]; omega

theorem nx4_end {l : List UInt8} (h : l.length ≠ 32) : (!(nx (nx (nx (nx (l, false))))).2 && decide ((nx (nx (nx (nx (l, false))))).1 = [])) = false := by
  cases h4 : (nx (nx (nx (nx (l, false))))).2 with
  | true => rfl
  | false =>
    obtain ⟨b3, c3, d3⟩ := nx_back h4
    obtain ⟨b2, c2, d2⟩ := nx_back b3
    obtain ⟨b1, c1, d1⟩ := nx_back b2
    obtain ⟨b0, c0, d0⟩ := nx_back b1
    have hne : (nx (nx (nx (nx (l, false))))).1 ≠ [] := fun he => by
      rw [he, List.length_nil] at d3
      dsimp only at d0
      omega
    rw [decide_eq_false hne]; rfl

theorem nx4_32 {l : List UInt8} (h : l.length = 32) : nx (l, false) = (l.drop 8, false) ∧ nx (l.drop 8, false) = ((l.drop 8).drop 8, false) ∧ nx ((l.drop 8).drop 8, false) = (((l.drop 8).drop 8).drop 8, false) ∧ nx (((l.drop 8).drop 8).drop 8, false) = ([], false) ∧
    nv (l, false) = numL (l.take 8) ∧ nv (l.drop 8, false) = numL ((l.drop 8).take 8) ∧ nv ((l.drop 8).drop 8, false) = numL (((l.drop 8).drop 8).take 8) ∧ nv (((l.drop 8).drop 8).drop 8, false) = numL ((((l.drop 8).drop 8).drop 8).take 8) := by
  have l1 : (l.drop 8).length = 24 := by rw [List.length_drop]; omega
  have l2 : ((l.drop 8).drop 8).length = 16 := by rw [List.length_drop, l1]
  have l3 : (((l.drop 8).drop 8).drop 8).length = 8 := by rw [List.length_drop, l2]
  have l4 : (((l.drop 8).drop 8).drop 8).drop 8 = [] := List.drop_eq_nil_iff.2 (by omega)
  unfold nx nv
  refine ⟨?_, ?_, ?_, ?_, ?_, ?_, ?_, ?_⟩
  · rw [if_neg (by simp; omega)]
  · rw [if_neg (by simp only [Bool.false_eq_true, false_or]; omega)]
  · rw [if_neg (by simp only [Bool.false_eq_true, false_or]; omega)]
  · rw [if_neg (by simp only [Bool.false_eq_true, false_or]; omega), l4]
  · rw [if_neg (by simp; omega)]
  · rw [if_neg (by simp only [Bool.false_eq_true, false_or]; omega)]
  · rw [if_neg (by simp only [Bool.false_eq_true, false_or]; omega)]
  · rw [if_neg (by simp only [Bool.false_eq_true, false_or]; omega)]

theorem nx_len (x : List UInt8 × Bool) : (nx x).1.length ≤ x.1.length := by unfold nx; split <;> simp

theorem cRead_spec {l : List UInt8} {K : VK} (hs : St W w L) (hl : l.length < 1099511627776) (hK : ∀ w', St W w' L → K (headRes (readH l)) w') : crown_Read (bs l) K w := by
  unfold crown_Read
  refine mk_of hs fun r1 w hs => ?_
  refine tRead_spec hs fun q w hs => ?_
  simp only [nn_some, add_mk, Nat.zero_add, Nat.add_zero, Nat.reduceAdd, Nat.reduceMul, Option.isNone_some, Option.isNone_none, br_true, br_false, Bool.not_true, Bool.not_false, xI_eq, xB_eq, xS_eq, xP_eq, xL_eq, x0_eq, x2_eq, x3_eq, chk_eq, true_and, and_true, List.set_cons_zero, List.set_cons_succ, List.eraseIdx_cons_zero, List.eraseIdx_cons_succ]
  have n1 := nx_len (l, false)
  have n2 := nx_len (nx (l, false))
  have n3 := nx_len (nx (nx (l, false)))
  dsimp only at n1
  refine Int8_spec (k := 0) (x := (l, false)) hs rfl hl fun w hs => ?_
  simp only [nn_some, add_mk, Nat.zero_add, Nat.add_zero, Nat.reduceAdd, Nat.reduceMul, Option.isNone_some, Option.isNone_none, br_true, br_false, Bool.not_true, Bool.not_false, xI_eq, xB_eq, xS_eq, xP_eq, xL_eq, x0_eq, x2_eq, x3_eq, chk_eq, true_and, and_true, List.set_cons_zero, List.set_cons_succ, List.eraseIdx_cons_zero, List.eraseIdx_cons_succ] at hs ⊢
  refine Int8_spec (k := 0) (x := nx (l, false)) hs rfl (by omega) fun w hs => ?_
  simp only [nn_some, add_mk, Nat.zero_add, Nat.add_zero, Nat.reduceAdd, Nat.reduceMul, Option.isNone_some, Option.isNone_none, br_true, br_false, Bool.not_true, Bool.not_false, xI_eq, xB_eq, xS_eq, xP_eq, xL_eq, x0_eq, x2_eq, x3_eq, chk_eq, true_and, and_true, List.set_cons_zero, List.set_cons_succ, List.eraseIdx_cons_zero, List.eraseIdx_cons_succ] at hs ⊢
  refine Int8_spec (k := 0) (x := nx (nx (l, false))) hs rfl (by omega) fun w hs => ?_
  simp only [nn_some, add_mk, Nat.zero_add, Nat.add_zero, Nat.reduceAdd, Nat.reduceMul, Option.isNone_some, Option.isNone_none, br_true, br_false, Bool.not_true, Bool.not_false, xI_eq, xB_eq, xS_eq, xP_eq, xL_eq, x0_eq, x2_eq, x3_eq, chk_eq, true_and, and_true, List.set_cons_zero, List.set_cons_succ, List.eraseIdx_cons_zero, List.eraseIdx_cons_succ] at hs ⊢
  refine Int8_spec (k := 0) (x := nx (nx (nx (l, false)))) hs rfl (by omega) fun w hs => ?_
  simp only [nn_some, add_mk, Nat.zero_add, Nat.add_zero, Nat.reduceAdd, Nat.reduceMul, Option.isNone_some, Option.isNone_none, br_true, br_false, Bool.not_true, Bool.not_false, xI_eq, xB_eq, xS_eq, xP_eq, xL_eq, x0_eq, x2_eq, x3_eq, chk_eq, true_and, and_true, List.set_cons_zero, List.set_cons_succ, List.eraseIdx_cons_zero, List.eraseIdx_cons_succ] at hs ⊢
  refine mk_of hs fun r2 w hs => ?_
  refine ⟨by simp, ?_⟩
  refine stN_pt (k := 0) hs rfl (Nat.le_of_ble_eq_true rfl) (by simp [Value.oneCell']) fun w hs => ?_
  rw [over_all (by simp)] at hs
  simp only [nn_some, add_mk, Nat.zero_add, Nat.add_zero, Nat.reduceAdd, Nat.reduceMul, Option.isNone_some, Option.isNone_none, br_true, br_false, Bool.not_true, Bool.not_false, xI_eq, xB_eq, xS_eq, xP_eq, xL_eq, x0_eq, x2_eq, x3_eq, chk_eq, true_and, and_true, List.set_cons_zero, List.set_cons_succ, List.eraseIdx_cons_zero, List.eraseIdx_cons_succ] at hs
  refine End_spec (k := 1) (x := nx (nx (nx (nx (l, false))))) hs rfl ?_
  simp only [nn_some, add_mk, Nat.zero_add, Nat.add_zero, Nat.reduceAdd, Nat.reduceMul, Option.isNone_some, Option.isNone_none, br_true, br_false, Bool.not_true, Bool.not_false, xI_eq, xB_eq, xS_eq, xP_eq, xL_eq, x0_eq, x2_eq, x3_eq, chk_eq, true_and, and_true, List.set_cons_zero, List.set_cons_succ, List.eraseIdx_cons_zero, List.eraseIdx_cons_succ]
  have fail : ∀ w A B, (∀ w', St W w' L → K (headRes none) w') → St W w (A :: B :: pt r1 [.int .i64 0, .int .i64 0, .int .i64 0, .int .i64 0] :: L) → stN ⟨r1, 0, none⟩ [.int .i64 0, .int .i64 0, .int .i64 0, .int .i64 0] (ldN ⟨r1, 0, none⟩ 4 fun cs => K (.tuple ⟨[.agg ⟨cs⟩, .bool false]⟩)) w := fun w A B hK hs => by
    refine stN_pt (k := 2) hs rfl (Nat.le_of_ble_eq_true rfl) (by simp [Value.oneCell']) fun w hs => ?_
    rw [over_all (by simp)] at hs
    refine ldN_pt (k := 2) (xs := [.int .i64 0, .int .i64 0, .int .i64 0, .int .i64 0]) hs rfl rfl (fun j v hj => by rw [Nat.zero_add]; exact hj) ?_
    exact hK w hs.drop.drop.drop
  unfold readH at hK
  by_cases h32 : l.length = 32
  · obtain ⟨a1, a2, a3, a4, b1, b2, b3, b4⟩ := nx4_32 h32
    rw [a1, a2, a3, a4] at hs ⊢
    rw [b1, b2, b3, b4] at hs
    have ee : (!((([] : List UInt8), false) : List UInt8 × Bool).2 && decide ((((([] : List UInt8), false) : List UInt8 × Bool)).1 = [])) = true := by decide
    rw [ee]
    simp only [nn_some, add_mk, Nat.zero_add, Nat.add_zero, Nat.reduceAdd, Nat.reduceMul, Option.isNone_some, Option.isNone_none, br_true, br_false, Bool.not_true, Bool.not_false, xI_eq, xB_eq, xS_eq, xP_eq, xL_eq, x0_eq, x2_eq, x3_eq, chk_eq, true_and, and_true, List.set_cons_zero, List.set_cons_succ, List.eraseIdx_cons_zero, List.eraseIdx_cons_succ]
    have hs : St W w (pt r2 (headCells (headOf l)) :: rdr q (bs []) false :: pt r1 [.int .i64 0, .int .i64 0, .int .i64 0, .int .i64 0] :: L) := hs
    refine ldN_pt (k := 0) (xs := headCells (headOf l)) hs rfl rfl (fun j v hj => by rw [Nat.zero_add]; exact hj) ?_
    refine cGood_spec hs fun w hs => ?_
    simp only [nn_some, add_mk, Nat.zero_add, Nat.add_zero, Nat.reduceAdd, Nat.reduceMul, Option.isNone_some, Option.isNone_none, br_true, br_false, Bool.not_true, Bool.not_false, xI_eq, xB_eq, xS_eq, xP_eq, xL_eq, x0_eq, x2_eq, x3_eq, chk_eq, true_and, and_true, List.set_cons_zero, List.set_cons_succ, List.eraseIdx_cons_zero, List.eraseIdx_cons_succ]
    by_cases hg : HGood (headOf l)
    · rw [if_pos ⟨h32, hg⟩] at hK
      rw [decide_eq_true hg]
      simp only [nn_some, add_mk, Nat.zero_add, Nat.add_zero, Nat.reduceAdd, Nat.reduceMul, Option.isNone_some, Option.isNone_none, br_true, br_false, Bool.not_true, Bool.not_false, xI_eq, xB_eq, xS_eq, xP_eq, xL_eq, x0_eq, x2_eq, x3_eq, chk_eq, true_and, and_true, List.set_cons_zero, List.set_cons_succ, List.eraseIdx_cons_zero, List.eraseIdx_cons_succ]
      refine ldN_pt (k := 0) (xs := headCells (headOf l)) hs rfl rfl (fun j v hj => by rw [Nat.zero_add]; exact hj) ?_
      refine ⟨rfl, ?_⟩
      refine stN_pt (k := 2) hs rfl (Nat.le_of_ble_eq_true rfl) (by simp [Value.oneCell', headCells]) fun w hs => ?_
      rw [over_all (by simp [headCells])] at hs
      simp only [nn_some, add_mk, Nat.zero_add, Nat.add_zero, Nat.reduceAdd, Nat.reduceMul, Option.isNone_some, Option.isNone_none, br_true, br_false, Bool.not_true, Bool.not_false, xI_eq, xB_eq, xS_eq, xP_eq, xL_eq, x0_eq, x2_eq, x3_eq, chk_eq, true_and, and_true, List.set_cons_zero, List.set_cons_succ, List.eraseIdx_cons_zero, List.eraseIdx_cons_succ] at hs
      refine ldN_pt (k := 2) (xs := headCells (headOf l)) hs rfl rfl (fun j v hj => by rw [Nat.zero_add]; exact hj) ?_
      exact hK w hs.drop.drop.drop
    · rw [if_neg (fun hh => hg hh.2)] at hK
      rw [decide_eq_false hg]
      simp only [nn_some, add_mk, Nat.zero_add, Nat.add_zero, Nat.reduceAdd, Nat.reduceMul, Option.isNone_some, Option.isNone_none, br_true, br_false, Bool.not_true, Bool.not_false, xI_eq, xB_eq, xS_eq, xP_eq, xL_eq, x0_eq, x2_eq, x3_eq, chk_eq, true_and, and_true, List.set_cons_zero, List.set_cons_succ, List.eraseIdx_cons_zero, List.eraseIdx_cons_succ]
      exact fail w _ _ hK hs
  · rw [if_neg (fun hh => h32 hh.1)] at hK
    rw [nx4_end h32]
    simp only [nn_some, add_mk, Nat.zero_add, Nat.add_zero, Nat.reduceAdd, Nat.reduceMul, Option.isNone_some, Option.isNone_none, br_true, br_false, Bool.not_true, Bool.not_false, xI_eq, xB_eq, xS_eq, xP_eq, xL_eq, x0_eq, x2_eq, x3_eq, chk_eq, true_and, and_true, List.set_cons_zero, List.set_cons_succ, List.eraseIdx_cons_zero, List.eraseIdx_cons_succ]
    exact fail w _ _ hK hs

/-- What stands at a place. -/
def atH (D : Disk) (i : Nat) : Option PHead :=
  match readV (D.read (i : Int)).1.data.toList with
  | none => none
  | some (_, j, d) => if (D.read (i : Int)).2 ≠ 0 ∨ j ≠ 0 then none else match readH d.data.toList with
    | none => none
    | some h => if low h.turn ≠ i then none else some h

theorem at_spec {i : Nat} {K : VK} (hs : St W w L) (hk : L[k]? = some (disk d D)) (hok : D.Ok) (hK : ∀ w', St W w' L → K (headRes (atH D i)) w') : crown_at (some ⟨d, 0, none⟩) i K w := by
  unfold crown_at
  refine mk_of hs fun r1 w hs => ?_
  have hk1 : (pt r1 [.int .i64 0, .int .i64 0, .int .i64 0, .int .i64 0] :: L)[k + 1]? = some (disk d D) := by rw [List.getElem?_cons_succ]; exact hk
  refine Disk_Read_spec (k := k + 1) hs hk1 hok ?_
  simp only [nn_some, add_mk, Nat.zero_add, Nat.add_zero, Nat.reduceAdd, Nat.reduceMul, Option.isNone_some, Option.isNone_none, br_true, br_false, Bool.not_true, Bool.not_false, xI_eq, xB_eq, xS_eq, xP_eq, xL_eq, x0_eq, x2_eq, x3_eq, chk_eq, true_and, and_true, List.set_cons_zero, List.set_cons_succ, List.eraseIdx_cons_zero, List.eraseIdx_cons_succ]
  have fail : ∀ w A, (∀ w', St W w' L → K (headRes none) w') → St W w (A :: pt r1 [.int .i64 0, .int .i64 0, .int .i64 0, .int .i64 0] :: L) → stN ⟨r1, 0, none⟩ [.int .i64 0, .int .i64 0, .int .i64 0, .int .i64 0] (ldN ⟨r1, 0, none⟩ 4 fun cs => K (.tuple ⟨[.agg ⟨cs⟩, .bool false]⟩)) w := fun w A hK hs => by
    refine stN_pt (k := 1) hs rfl (Nat.le_of_ble_eq_true rfl) (by simp [Value.oneCell']) fun w hs => ?_
    rw [over_all (by simp)] at hs
    refine ldN_pt (k := 1) (xs := [.int .i64 0, .int .i64 0, .int .i64 0, .int .i64 0]) hs rfl rfl (fun j v hj => by rw [Nat.zero_add]; exact hj) ?_
    exact hK w hs.drop.drop
  have failj : ∀ w r2 A, (∀ w', St W w' L → K (headRes none) w') → St W w (A :: pt r1 [.int .i64 0, .int .i64 0, .int .i64 0, .int .i64 0] :: L) → crown_at.j1 K r1 r2 i true w := fun w r2 A hK hs => by
    unfold crown_at.j1
    simp only [nn_some, add_mk, Nat.zero_add, Nat.add_zero, Nat.reduceAdd, Nat.reduceMul, Option.isNone_some, Option.isNone_none, br_true, br_false, Bool.not_true, Bool.not_false, xI_eq, xB_eq, xS_eq, xP_eq, xL_eq, x0_eq, x2_eq, x3_eq, chk_eq, true_and, and_true, List.set_cons_zero, List.set_cons_succ, List.eraseIdx_cons_zero, List.eraseIdx_cons_succ]
    exact fail w A hK hs
  have hxs : (D.read (i : Int)).1.size < 1099511627776 := by
    by_cases hi : D.is (i : Int)
    · have := read_size hok hi; omega
    · unfold Disk.read; rw [if_neg hi]; decide
  unfold atH at hK
  generalize hx : (D.read (i : Int)).1 = x at *
  generalize he : (D.read (i : Int)).2 = e at *
  rw [show x = bs x.data.toList from rfl]
  refine Read_spec hs (by rw [toList_length]; exact hxs) fun w hs => ?_
  cases hv : readV x.data.toList with
  | none =>
    rw [hv] at hK
    unfold readRes
    simp only [nn_some, add_mk, Nat.zero_add, Nat.add_zero, Nat.reduceAdd, Nat.reduceMul, Option.isNone_some, Option.isNone_none, br_true, br_false, Bool.not_true, Bool.not_false, xI_eq, xB_eq, xS_eq, xP_eq, xL_eq, x0_eq, x2_eq, x3_eq, chk_eq, true_and, and_true, List.set_cons_zero, List.set_cons_succ, List.eraseIdx_cons_zero, List.eraseIdx_cons_succ]
    simp only [xA_eq, List.length_cons, List.length_nil, Nat.zero_add, Nat.reduceAdd, true_and]
    simp only [nn_some, add_mk, Nat.zero_add, Nat.add_zero, Nat.reduceAdd, Nat.reduceMul, Option.isNone_some, Option.isNone_none, br_true, br_false, Bool.not_true, Bool.not_false, xI_eq, xB_eq, xS_eq, xP_eq, xL_eq, x0_eq, x2_eq, x3_eq, chk_eq, true_and, and_true, List.set_cons_zero, List.set_cons_succ, List.eraseIdx_cons_zero, List.eraseIdx_cons_succ]
    refine mk_of hs fun r2 w hs => ?_
    refine ⟨trivial, stN_pt (k := 0) hs rfl (Nat.le_of_ble_eq_true rfl) (by simp [Value.oneCell']) fun w hs => ?_⟩
    simp only [nn_some, add_mk, Nat.zero_add, Nat.add_zero, Nat.reduceAdd, Nat.reduceMul, Option.isNone_some, Option.isNone_none, br_true, br_false, Bool.not_true, Bool.not_false, xI_eq, xB_eq, xS_eq, xP_eq, xL_eq, x0_eq, x2_eq, x3_eq, chk_eq, true_and, and_true, List.set_cons_zero, List.set_cons_succ, List.eraseIdx_cons_zero, List.eraseIdx_cons_succ] at hs
    refine br_ne (fun _ => failj w r2 _ hK hs) (fun _ => ?_)
    exact failj w r2 _ hK hs
  | some y =>
    obtain ⟨m, j, dd⟩ := y
    rw [hv] at hK
    dsimp only at hK
    unfold readRes
    simp only [nn_some, add_mk, Nat.zero_add, Nat.add_zero, Nat.reduceAdd, Nat.reduceMul, Option.isNone_some, Option.isNone_none, br_true, br_false, Bool.not_true, Bool.not_false, xI_eq, xB_eq, xS_eq, xP_eq, xL_eq, x0_eq, x2_eq, x3_eq, chk_eq, true_and, and_true, List.set_cons_zero, List.set_cons_succ, List.eraseIdx_cons_zero, List.eraseIdx_cons_succ]
    simp only [xA_eq, List.length_cons, List.length_nil, Nat.zero_add, Nat.reduceAdd, true_and]
    simp only [nn_some, add_mk, Nat.zero_add, Nat.add_zero, Nat.reduceAdd, Nat.reduceMul, Option.isNone_some, Option.isNone_none, br_true, br_false, Bool.not_true, Bool.not_false, xI_eq, xB_eq, xS_eq, xP_eq, xL_eq, x0_eq, x2_eq, x3_eq, chk_eq, true_and, and_true, List.set_cons_zero, List.set_cons_succ, List.eraseIdx_cons_zero, List.eraseIdx_cons_succ]
    refine mk_of hs fun r2 w hs => ?_
    refine ⟨trivial, stN_pt (k := 0) hs rfl (Nat.le_of_ble_eq_true rfl) (by simp [Value.oneCell']) fun w hs => ?_⟩
    rw [over_all (by simp)] at hs
    simp only [nn_some, add_mk, Nat.zero_add, Nat.add_zero, Nat.reduceAdd, Nat.reduceMul, Option.isNone_some, Option.isNone_none, br_true, br_false, Bool.not_true, Bool.not_false, xI_eq, xB_eq, xS_eq, xP_eq, xL_eq, x0_eq, x2_eq, x3_eq, chk_eq, true_and, and_true, List.set_cons_zero, List.set_cons_succ, List.eraseIdx_cons_zero, List.eraseIdx_cons_succ] at hs
    refine br_ne (fun hne => ?_) (fun h0 => ?_)
    · rw [if_pos (.inl hne)] at hK
      exact failj w r2 _ hK hs
    refine ld_pt (k := 0) hs rfl rfl ?_
    simp only [nn_some, add_mk, Nat.zero_add, Nat.add_zero, Nat.reduceAdd, Nat.reduceMul, Option.isNone_some, Option.isNone_none, br_true, br_false, Bool.not_true, Bool.not_false, xI_eq, xB_eq, xS_eq, xP_eq, xL_eq, x0_eq, x2_eq, x3_eq, chk_eq, true_and, and_true, List.set_cons_zero, List.set_cons_succ, List.eraseIdx_cons_zero, List.eraseIdx_cons_succ]
    by_cases hj : j = 0
    · rw [if_neg (by rintro (h | h); exact h h0; exact h hj)] at hK
      have ej : (j != 0) = false := by simp [hj]
      rw [ej]
      unfold crown_at.j1
      simp only [nn_some, add_mk, Nat.zero_add, Nat.add_zero, Nat.reduceAdd, Nat.reduceMul, Option.isNone_some, Option.isNone_none, br_true, br_false, Bool.not_true, Bool.not_false, xI_eq, xB_eq, xS_eq, xP_eq, xL_eq, x0_eq, x2_eq, x3_eq, chk_eq, true_and, and_true, List.set_cons_zero, List.set_cons_succ, List.eraseIdx_cons_zero, List.eraseIdx_cons_succ]
      refine ld_pt (k := 0) hs rfl rfl ?_
      simp only [nn_some, add_mk, Nat.zero_add, Nat.add_zero, Nat.reduceAdd, Nat.reduceMul, Option.isNone_some, Option.isNone_none, br_true, br_false, Bool.not_true, Bool.not_false, xI_eq, xB_eq, xS_eq, xP_eq, xL_eq, x0_eq, x2_eq, x3_eq, chk_eq, true_and, and_true, List.set_cons_zero, List.set_cons_succ, List.eraseIdx_cons_zero, List.eraseIdx_cons_succ]
      rw [show dd = bs dd.data.toList from rfl]
      refine cRead_spec hs (by
        rw [toList_length]
        have := (readV_some' hv)
        omega) fun w hs => ?_
      cases hh : readH dd.data.toList with
      | none =>
        rw [hh] at hK
        unfold headRes
        simp only [nn_some, add_mk, Nat.zero_add, Nat.add_zero, Nat.reduceAdd, Nat.reduceMul, Option.isNone_some, Option.isNone_none, br_true, br_false, Bool.not_true, Bool.not_false, xI_eq, xB_eq, xS_eq, xP_eq, xL_eq, x0_eq, x2_eq, x3_eq, chk_eq, true_and, and_true, List.set_cons_zero, List.set_cons_succ, List.eraseIdx_cons_zero, List.eraseIdx_cons_succ]
        simp only [xA_eq]
        refine ⟨rfl, ?_⟩
        simp only [nn_some, add_mk, Nat.zero_add, Nat.add_zero, Nat.reduceAdd, Nat.reduceMul, Option.isNone_some, Option.isNone_none, br_true, br_false, Bool.not_true, Bool.not_false, xI_eq, xB_eq, xS_eq, xP_eq, xL_eq, x0_eq, x2_eq, x3_eq, chk_eq, true_and, and_true, List.set_cons_zero, List.set_cons_succ, List.eraseIdx_cons_zero, List.eraseIdx_cons_succ]
        refine mk_of hs fun r3 w hs => ?_
        refine ⟨by simp [headCells], stN_pt (k := 0) hs rfl (Nat.le_of_ble_eq_true rfl) (by simp [Value.oneCell', headCells]) fun w hs => ?_⟩
        rw [over_all (by simp [headCells])] at hs
        simp only [nn_some, add_mk, Nat.zero_add, Nat.add_zero, Nat.reduceAdd, Nat.reduceMul, Option.isNone_some, Option.isNone_none, br_true, br_false, Bool.not_true, Bool.not_false, xI_eq, xB_eq, xS_eq, xP_eq, xL_eq, x0_eq, x2_eq, x3_eq, chk_eq, true_and, and_true, List.set_cons_zero, List.set_cons_succ, List.eraseIdx_cons_zero, List.eraseIdx_cons_succ] at hs
        refine ⟨trivial, by simp, ?_⟩
        refine stN_pt (k := 2) hs rfl (Nat.le_of_ble_eq_true rfl) (by simp [Value.oneCell']) fun w hs => ?_
        rw [over_all (by simp)] at hs
        simp only [nn_some, add_mk, Nat.zero_add, Nat.add_zero, Nat.reduceAdd, Nat.reduceMul, Option.isNone_some, Option.isNone_none, br_true, br_false, Bool.not_true, Bool.not_false, xI_eq, xB_eq, xS_eq, xP_eq, xL_eq, x0_eq, x2_eq, x3_eq, chk_eq, true_and, and_true, List.set_cons_zero, List.set_cons_succ, List.eraseIdx_cons_zero, List.eraseIdx_cons_succ] at hs
        refine ldN_pt (k := 2) (xs := [.int .i64 0, .int .i64 0, .int .i64 0, .int .i64 0]) hs rfl rfl (fun j v hj => by rw [Nat.zero_add]; exact hj) ?_
        exact hK w hs.drop.drop.drop
      | some hd =>
        rw [hh] at hK
        dsimp only at hK
        unfold headRes
        simp only [nn_some, add_mk, Nat.zero_add, Nat.add_zero, Nat.reduceAdd, Nat.reduceMul, Option.isNone_some, Option.isNone_none, br_true, br_false, Bool.not_true, Bool.not_false, xI_eq, xB_eq, xS_eq, xP_eq, xL_eq, x0_eq, x2_eq, x3_eq, chk_eq, true_and, and_true, List.set_cons_zero, List.set_cons_succ, List.eraseIdx_cons_zero, List.eraseIdx_cons_succ]
        simp only [xA_eq]
        refine ⟨rfl, ?_⟩
        simp only [nn_some, add_mk, Nat.zero_add, Nat.add_zero, Nat.reduceAdd, Nat.reduceMul, Option.isNone_some, Option.isNone_none, br_true, br_false, Bool.not_true, Bool.not_false, xI_eq, xB_eq, xS_eq, xP_eq, xL_eq, x0_eq, x2_eq, x3_eq, chk_eq, true_and, and_true, List.set_cons_zero, List.set_cons_succ, List.eraseIdx_cons_zero, List.eraseIdx_cons_succ]
        refine mk_of hs fun r3 w hs => ?_
        refine ⟨by simp [headCells], stN_pt (k := 0) hs rfl (Nat.le_of_ble_eq_true rfl) (by simp [Value.oneCell', headCells]) fun w hs => ?_⟩
        rw [over_all (by simp [headCells])] at hs
        simp only [nn_some, add_mk, Nat.zero_add, Nat.add_zero, Nat.reduceAdd, Nat.reduceMul, Option.isNone_some, Option.isNone_none, br_true, br_false, Bool.not_true, Bool.not_false, xI_eq, xB_eq, xS_eq, xP_eq, xL_eq, x0_eq, x2_eq, x3_eq, chk_eq, true_and, and_true, List.set_cons_zero, List.set_cons_succ, List.eraseIdx_cons_zero, List.eraseIdx_cons_succ] at hs
        refine ld_pt (k := 0) hs rfl rfl ?_
        simp only [nn_some, add_mk, Nat.zero_add, Nat.add_zero, Nat.reduceAdd, Nat.reduceMul, Option.isNone_some, Option.isNone_none, br_true, br_false, Bool.not_true, Bool.not_false, xI_eq, xB_eq, xS_eq, xP_eq, xL_eq, x0_eq, x2_eq, x3_eq, chk_eq, true_and, and_true, List.set_cons_zero, List.set_cons_succ, List.eraseIdx_cons_zero, List.eraseIdx_cons_succ]
        refine br_ne (fun hne => ?_) (fun heq => ?_)
        · rw [if_pos (show low hd.turn ≠ (i : Int) from hne)] at hK
          refine ⟨trivial, by simp, ?_⟩
          refine stN_pt (k := 2) hs rfl (Nat.le_of_ble_eq_true rfl) (by simp [Value.oneCell']) fun w hs => ?_
          rw [over_all (by simp)] at hs
          simp only [nn_some, add_mk, Nat.zero_add, Nat.add_zero, Nat.reduceAdd, Nat.reduceMul, Option.isNone_some, Option.isNone_none, br_true, br_false, Bool.not_true, Bool.not_false, xI_eq, xB_eq, xS_eq, xP_eq, xL_eq, x0_eq, x2_eq, x3_eq, chk_eq, true_and, and_true, List.set_cons_zero, List.set_cons_succ, List.eraseIdx_cons_zero, List.eraseIdx_cons_succ] at hs
          refine ldN_pt (k := 2) (xs := [.int .i64 0, .int .i64 0, .int .i64 0, .int .i64 0]) hs rfl rfl (fun j v hj => by rw [Nat.zero_add]; exact hj) ?_
          exact hK w hs.drop.drop.drop
        · rw [if_neg (show ¬ low hd.turn ≠ (i : Int) from fun hh => hh heq)] at hK
          refine ldN_pt (k := 0) (xs := headCells hd) hs rfl rfl (fun j v hj => by rw [Nat.zero_add]; exact hj) ?_
          refine ⟨rfl, ?_⟩
          refine stN_pt (k := 2) hs rfl (Nat.le_of_ble_eq_true rfl) (by simp [Value.oneCell', headCells]) fun w hs => ?_
          rw [over_all (by simp [headCells])] at hs
          simp only [nn_some, add_mk, Nat.zero_add, Nat.add_zero, Nat.reduceAdd, Nat.reduceMul, Option.isNone_some, Option.isNone_none, br_true, br_false, Bool.not_true, Bool.not_false, xI_eq, xB_eq, xS_eq, xP_eq, xL_eq, x0_eq, x2_eq, x3_eq, chk_eq, true_and, and_true, List.set_cons_zero, List.set_cons_succ, List.eraseIdx_cons_zero, List.eraseIdx_cons_succ] at hs
          refine ldN_pt (k := 2) (xs := headCells hd) hs rfl rfl (fun j v hj => by rw [Nat.zero_add]; exact hj) ?_
          exact hK w hs.drop.drop.drop
    · rw [if_pos (.inr hj)] at hK
      have ej : (j != 0) = true := by simp [hj]
      rw [ej]
      exact failj w r2 _ hK hs
end
end Go.Sep
