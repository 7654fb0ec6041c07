/- CrC: Cr2, Cr3, merged: part of the proof: see the last text. -/
import Derived.Test.YtidhimamegfdaaaDoorCrB
/- Layer 8: heads put and told; the laws CrownReads, CrownBytes. -/
namespace Go.Sep
open Go.Den Go.RowKit Go.Prog Go.Plat
set_option linter.unusedSimpArgs false
set_option linter.unusedVariables false

def newestH (a b : Option PHead) : Option PHead :=
  match b with
  | none => a
  | some hb => match a with
    | none => some hb
    | some ha => if ha.turn < hb.turn then some hb else some ha

def cput (D : Disk) (number : Int) (h : PHead) : Disk × Int :=
  if HGood h then (if (lay D (low h.turn) (low h.turn + 1) number (bs (headL h))).2 ≠ 0 then lay D (low h.turn) (low h.turn + 1) number (bs (headL h)) else (lay D (low h.turn) (low h.turn + 1) number (bs (headL h))).1.sync) else (D, 1)

section
variable {W w : World} {L : List HP} {k d : Nat} {D : Disk}

theorem cPut_spec {number : Int} {h : PHead} {K : VK} (hs : St W w L) (hk : L[k]? = some (disk d D)) (hok : D.Ok) (hl : D.later.length + 5000 < 1099511627776)
    (hK : ∀ w', St W w' (L.set k (disk d (cput D number h).1)) → K (.int .i64 (cput D number h).2) w') : crown_Put (some ⟨d, 0, none⟩) number (headCells h) K w := by
  unfold crown_Put
  refine mk_of hs fun r w hs => ?_
  refine ldN_pt (k := 0) (xs := headCells h) hs rfl rfl (fun j v hj => by rw [Nat.zero_add]; exact hj) ?_
  refine cBytes_spec hs fun w hs => ?_
  simp only [nn_some, add_mk, Nat.zero_add, Nat.add_zero, Nat.reduceAdd, Nat.reduceMul, Option.isNone_some, Option.isNone_none, br_true, br_false, Bool.not_true, Bool.not_false, xI_eq, xB_eq, xS_eq, xP_eq, xL_eq, x0_eq, x2_eq, x3_eq, chk_eq, true_and, and_true, List.set_cons_zero, List.set_cons_succ, List.eraseIdx_cons_zero, List.eraseIdx_cons_succ]
  unfold cput at hK
  unfold headSum
  by_cases hg : HGood h
  · rw [if_pos hg] at hK ⊢
    dsimp only
    refine br_ne (fun hh => absurd rfl hh) (fun _ => ?_)
    refine ld_pt (k := 0) hs rfl rfl ?_
    simp only [nn_some, add_mk, Nat.zero_add, Nat.add_zero, Nat.reduceAdd, Nat.reduceMul, Option.isNone_some, Option.isNone_none, br_true, br_false, Bool.not_true, Bool.not_false, xI_eq, xB_eq, xS_eq, xP_eq, xL_eq, x0_eq, x2_eq, x3_eq, chk_eq, true_and, and_true, List.set_cons_zero, List.set_cons_succ, List.eraseIdx_cons_zero, List.eraseIdx_cons_succ]
    refine ld_pt (k := 0) hs rfl rfl ?_
    simp only [nn_some, add_mk, Nat.zero_add, Nat.add_zero, Nat.reduceAdd, Nat.reduceMul, Option.isNone_some, Option.isNone_none, br_true, br_false, Bool.not_true, Bool.not_false, xI_eq, xB_eq, xS_eq, xP_eq, xL_eq, x0_eq, x2_eq, x3_eq, chk_eq, true_and, and_true, List.set_cons_zero, List.set_cons_succ, List.eraseIdx_cons_zero, List.eraseIdx_cons_succ]
    have hlow := low_in h.turn
    have ew : IntKind.i64.wrap (isum .i64 .and h.turn 1 + 1) = low h.turn + 1 := by
      show IntKind.i64.wrap (low h.turn + 1) = _
      rw [wrap_id (by omega)]
    rw [ew]
    have e0 : isum .i64 .and h.turn 1 = low h.turn := rfl
    rw [e0]
    have hsz : (bs (headL h)).size = 32 := by rw [bs_size, headL_length]
    have hcnt : cnt (bs (headL h)).size = 1 := by rw [hsz]; rfl
    have hk2 : (pt r (headCells h) :: L)[k + 1]? = some (disk d D) := by rw [List.getElem?_cons_succ]; exact hk
    refine Lay_spec (k := k + 1) hs hk2 hok (by omega) (by rw [hsz]; decide) fun w hs => ?_
    rw [List.set_cons_succ] at hs
    simp only [nn_some, add_mk, Nat.zero_add, Nat.add_zero, Nat.reduceAdd, Nat.reduceMul, Option.isNone_some, Option.isNone_none, br_true, br_false, Bool.not_true, Bool.not_false, xI_eq, xB_eq, xS_eq, xP_eq, xL_eq, x0_eq, x2_eq, x3_eq, chk_eq, true_and, and_true, List.set_cons_zero, List.set_cons_succ, List.eraseIdx_cons_zero, List.eraseIdx_cons_succ]
    have hlok := (lay_ok (at' := low h.turn) (to := low h.turn + 1) (number := number) (s := bs (headL h)) hok (by rw [hcnt]; omega)).1
    refine br_ne (fun hne => ?_) (fun h0 => ?_)
    · rw [if_pos hne] at hK
      exact hK w hs.drop
    · rw [if_neg (fun hh => hh h0)] at hK
      refine Disk_Sync_spec (k := k + 1) hs (by rw [List.getElem?_cons_succ]; exact set_get hk) hlok fun w hs => ?_
      rw [List.set_cons_succ, List.set_set] at hs
      simp only [nn_some, add_mk, Nat.zero_add, Nat.add_zero, Nat.reduceAdd, Nat.reduceMul, Option.isNone_some, Option.isNone_none, br_true, br_false, Bool.not_true, Bool.not_false, xI_eq, xB_eq, xS_eq, xP_eq, xL_eq, x0_eq, x2_eq, x3_eq, chk_eq, true_and, and_true, List.set_cons_zero, List.set_cons_succ, List.eraseIdx_cons_zero, List.eraseIdx_cons_succ]
      exact hK w hs.drop
  · rw [if_neg hg] at hK ⊢
    dsimp only
    refine br_ne (fun _ => ?_) (fun hh => by simp at hh)
    refine hK w ?_
    rw [set_same hk]; exact hs.drop

/-- What a told head is, as cells and a flag. -/
def hdOf (o : Option PHead) : PHead := o.getD zeroH
theorem headRes_eq (o : Option PHead) : headRes o = .tuple ⟨[.agg ⟨headCells (hdOf o)⟩, .bool o.isSome]⟩ := by cases o <;> rfl

theorem Newest_spec {K : VK} (hs : St W w L) (hk : L[k]? = some (disk d D)) (hok : D.Ok) (hK : ∀ w', St W w' L → K (headRes (newestH (atH D 0) (atH D 1))) w') : crown_Newest (some ⟨d, 0, none⟩) K w := by
  unfold crown_Newest
  refine mk_of hs fun r1 w hs => ?_
  refine at_spec (i := 0) (k := k + 1) hs (by rw [List.getElem?_cons_succ]; exact hk) hok fun w hs => ?_
  rw [headRes_eq]
  simp only [nn_some, add_mk, Nat.zero_add, Nat.add_zero, Nat.reduceAdd, Nat.reduceMul, Option.isNone_some, Option.isNone_none, br_true, br_false, Bool.not_true, Bool.not_false, xI_eq, xB_eq, xS_eq, xP_eq, xL_eq, x0_eq, x2_eq, x3_eq, chk_eq, true_and, and_true, List.set_cons_zero, List.set_cons_succ, List.eraseIdx_cons_zero, List.eraseIdx_cons_succ]
  simp only [xA_eq]
  refine ⟨rfl, ?_⟩
  simp only [nn_some, add_mk, Nat.zero_add, Nat.add_zero, Nat.reduceAdd, Nat.reduceMul, Option.isNone_some, Option.isNone_none, br_true, br_false, Bool.not_true, Bool.not_false, xI_eq, xB_eq, xS_eq, xP_eq, xL_eq, x0_eq, x2_eq, x3_eq, chk_eq, true_and, and_true, List.set_cons_zero, List.set_cons_succ, List.eraseIdx_cons_zero, List.eraseIdx_cons_succ]
  refine mk_of hs fun r2 w hs => ?_
  refine ⟨rfl, stN_pt (k := 0) hs rfl (Nat.le_of_ble_eq_true rfl) (by simp [Value.oneCell', headCells]) fun w hs => ?_⟩
  rw [over_all (by simp [headCells])] at hs
  simp only [nn_some, add_mk, Nat.zero_add, Nat.add_zero, Nat.reduceAdd, Nat.reduceMul, Option.isNone_some, Option.isNone_none, br_true, br_false, Bool.not_true, Bool.not_false, xI_eq, xB_eq, xS_eq, xP_eq, xL_eq, x0_eq, x2_eq, x3_eq, chk_eq, true_and, and_true, List.set_cons_zero, List.set_cons_succ, List.eraseIdx_cons_zero, List.eraseIdx_cons_succ] at hs
  refine at_spec (i := 1) (k := k + 2) hs (by rw [List.getElem?_cons_succ, List.getElem?_cons_succ]; exact hk) hok fun w hs => ?_
  rw [headRes_eq]
  simp only [nn_some, add_mk, Nat.zero_add, Nat.add_zero, Nat.reduceAdd, Nat.reduceMul, Option.isNone_some, Option.isNone_none, br_true, br_false, Bool.not_true, Bool.not_false, xI_eq, xB_eq, xS_eq, xP_eq, xL_eq, x0_eq, x2_eq, x3_eq, chk_eq, true_and, and_true, List.set_cons_zero, List.set_cons_succ, List.eraseIdx_cons_zero, List.eraseIdx_cons_succ]
  simp only [xA_eq]
  refine ⟨rfl, ?_⟩
  simp only [nn_some, add_mk, Nat.zero_add, Nat.add_zero, Nat.reduceAdd, Nat.reduceMul, Option.isNone_some, Option.isNone_none, br_true, br_false, Bool.not_true, Bool.not_false, xI_eq, xB_eq, xS_eq, xP_eq, xL_eq, x0_eq, x2_eq, x3_eq, chk_eq, true_and, and_true, List.set_cons_zero, List.set_cons_succ, List.eraseIdx_cons_zero, List.eraseIdx_cons_succ]
  refine mk_of hs fun r3 w hs => ?_
  refine ⟨rfl, stN_pt (k := 0) hs rfl (Nat.le_of_ble_eq_true rfl) (by simp [Value.oneCell', headCells]) fun w hs => ?_⟩
  rw [over_all (by simp [headCells])] at hs
  simp only [nn_some, add_mk, Nat.zero_add, Nat.add_zero, Nat.reduceAdd, Nat.reduceMul, Option.isNone_some, Option.isNone_none, br_true, br_false, Bool.not_true, Bool.not_false, xI_eq, xB_eq, xS_eq, xP_eq, xL_eq, x0_eq, x2_eq, x3_eq, chk_eq, true_and, and_true, List.set_cons_zero, List.set_cons_succ, List.eraseIdx_cons_zero, List.eraseIdx_cons_succ] at hs
  generalize atH D 0 = a at *
  generalize atH D 1 = b at *
  have tell : ∀ (i : Nat) (o : Option PHead) (r : Nat) (f : Bool), (i = 0 ∧ r = r3 ∧ hdOf o = hdOf b ∨ i = 1 ∧ r = r2 ∧ hdOf o = hdOf a) → (f = o.isSome) → (∀ w', St W w' L → K (headRes o) w') →
      ldN ⟨r, 0, none⟩ 4 (fun cs => chk (cs.length = 4) (stN ⟨r1, 0, none⟩ cs (ldN ⟨r1, 0, none⟩ 4 fun cs' => K (.tuple ⟨[.agg ⟨cs'⟩, .bool f]⟩)))) w := fun i o r f hi hf hK => by
    have hget : (pt r3 (headCells (hdOf b)) :: pt r2 (headCells (hdOf a)) :: pt r1 [.int .i64 0, .int .i64 0, .int .i64 0, .int .i64 0] :: L)[i]? = some (pt r (headCells (hdOf o))) := by
      rcases hi with ⟨rfl, rfl, h⟩ | ⟨rfl, rfl, h⟩ <;> rw [h] <;> rfl
    refine ldN_pt (xs := headCells (hdOf o)) hs hget rfl (fun j v hj => by rw [Nat.zero_add]; exact hj) ?_
    refine ⟨rfl, ?_⟩
    refine stN_pt (k := 2) hs rfl (Nat.le_of_ble_eq_true rfl) (by simp [Value.oneCell', headCells]) fun w hs => ?_
    rw [over_all (by simp [headCells])] at hs
    simp only [nn_some, add_mk, Nat.zero_add, Nat.add_zero, Nat.reduceAdd, Nat.reduceMul, Option.isNone_some, Option.isNone_none, br_true, br_false, Bool.not_true, Bool.not_false, xI_eq, xB_eq, xS_eq, xP_eq, xL_eq, x0_eq, x2_eq, x3_eq, chk_eq, true_and, and_true, List.set_cons_zero, List.set_cons_succ, List.eraseIdx_cons_zero, List.eraseIdx_cons_succ] at hs
    refine ldN_pt (k := 2) (xs := headCells (hdOf o)) hs rfl rfl (fun j v hj => by rw [Nat.zero_add]; exact hj) ?_
    have := hK w hs.drop.drop.drop
    rw [headRes_eq] at this
    rw [hf]; exact this
  cases b with
  | none =>
    exact tell 1 a r2 _ (.inr ⟨rfl, rfl, rfl⟩) rfl hK
  | some hb =>
    cases a with
    | none => exact tell 0 (some hb) r3 true (.inl ⟨rfl, rfl, rfl⟩) rfl hK
    | some ha =>
      have e1 : (some hb : Option PHead).isSome = true := rfl
      have e2 : (some ha : Option PHead).isSome = true := rfl
      rw [e1, e2]
      simp only [nn_some, add_mk, Nat.zero_add, Nat.add_zero, Nat.reduceAdd, Nat.reduceMul, Option.isNone_some, Option.isNone_none, br_true, br_false, Bool.not_true, Bool.not_false, xI_eq, xB_eq, xS_eq, xP_eq, xL_eq, x0_eq, x2_eq, x3_eq, chk_eq, true_and, and_true, List.set_cons_zero, List.set_cons_succ, List.eraseIdx_cons_zero, List.eraseIdx_cons_succ]
      refine ld_pt (k := 0) hs rfl (v := .int .i64 hb.turn) rfl ?_
      simp only [nn_some, add_mk, Nat.zero_add, Nat.add_zero, Nat.reduceAdd, Nat.reduceMul, Option.isNone_some, Option.isNone_none, br_true, br_false, Bool.not_true, Bool.not_false, xI_eq, xB_eq, xS_eq, xP_eq, xL_eq, x0_eq, x2_eq, x3_eq, chk_eq, true_and, and_true, List.set_cons_zero, List.set_cons_succ, List.eraseIdx_cons_zero, List.eraseIdx_cons_succ]
      refine ld_pt (k := 1) hs rfl (v := .int .i64 ha.turn) rfl ?_
      simp only [nn_some, add_mk, Nat.zero_add, Nat.add_zero, Nat.reduceAdd, Nat.reduceMul, Option.isNone_some, Option.isNone_none, br_true, br_false, Bool.not_true, Bool.not_false, xI_eq, xB_eq, xS_eq, xP_eq, xL_eq, x0_eq, x2_eq, x3_eq, chk_eq, true_and, and_true, List.set_cons_zero, List.set_cons_succ, List.eraseIdx_cons_zero, List.eraseIdx_cons_succ]
      unfold newestH at hK
      dsimp only at hK
      refine br_dec (fun hgt => ?_) (fun hle => ?_)
      · rw [if_pos hgt] at hK
        exact tell 0 (some hb) r3 true (.inl ⟨rfl, rfl, rfl⟩) rfl hK
      · rw [if_neg hle] at hK
        exact tell 1 (some ha) r2 true (.inr ⟨rfl, rfl, rfl⟩) rfl hK

theorem eqCells_head (a b : PHead) : eqCells (headCells a) (headCells b) = decide (a = b) := by
  obtain ⟨a1, a2, a3, a4⟩ := a
  obtain ⟨b1, b2, b3, b4⟩ := b
  simp only [headCells, eqCells, eqCell, PHead.mk.injEq]
  by_cases h1 : a1 = b1 <;> by_cases h2 : a2 = b2 <;> by_cases h3 : a3 = b3 <;> by_cases h4 : a4 = b4 <;> simp [h1, h2, h3, h4]

theorem alive8_spec {K : VK} (hs : St W w L) (hK : ∀ w', St W w' L → K (.bool true) w') : bondstorelaw08_alive K w := by
  unfold bondstorelaw08_alive
  refine New_spec hs fun d w hs => ?_
  simp only [nn_some, add_mk, Nat.zero_add, Nat.add_zero, Nat.reduceAdd, Nat.reduceMul, Option.isNone_some, Option.isNone_none, br_true, br_false, Bool.not_true, Bool.not_false, xI_eq, xB_eq, xS_eq, xP_eq, xL_eq, x0_eq, x2_eq, x3_eq, chk_eq, true_and, and_true, List.set_cons_zero, List.set_cons_succ, List.eraseIdx_cons_zero, List.eraseIdx_cons_succ]
  have e1 : (cput (Disk.new 2) 1 ⟨3, 5, 0, 0⟩).2 = 0 := by decide +kernel
  have e2 : newestH (atH (cput (Disk.new 2) 1 ⟨3, 5, 0, 0⟩).1 0) (atH (cput (Disk.new 2) 1 ⟨3, 5, 0, 0⟩).1 1) = some ⟨3, 5, 0, 0⟩ := by decide +kernel
  refine cPut_spec (h := ⟨3, 5, 0, 0⟩) (k := 0) hs rfl (new_ok 2) (by decide +kernel) fun w hs => ?_
  simp only [nn_some, add_mk, Nat.zero_add, Nat.add_zero, Nat.reduceAdd, Nat.reduceMul, Option.isNone_some, Option.isNone_none, br_true, br_false, Bool.not_true, Bool.not_false, xI_eq, xB_eq, xS_eq, xP_eq, xL_eq, x0_eq, x2_eq, x3_eq, chk_eq, true_and, and_true, List.set_cons_zero, List.set_cons_succ, List.eraseIdx_cons_zero, List.eraseIdx_cons_succ] at hs ⊢
  have hok : (cput (Disk.new 2) 1 ⟨3, 5, 0, 0⟩).1.Ok := by
    unfold cput
    rw [if_pos (by decide)]
    have hlo := (lay_ok (at' := low 3) (to := low 3 + 1) (number := 1) (s := bs (headL ⟨3, 5, 0, 0⟩)) (new_ok 2) (by decide +kernel)).1
    split
    · exact hlo
    · exact sync_ok hlo
  rw [e1]
  refine Newest_spec (k := 0) hs rfl hok fun w hs => ?_
  rw [e2]
  unfold headRes
  simp only [nn_some, add_mk, Nat.zero_add, Nat.add_zero, Nat.reduceAdd, Nat.reduceMul, Option.isNone_some, Option.isNone_none, br_true, br_false, Bool.not_true, Bool.not_false, xI_eq, xB_eq, xS_eq, xP_eq, xL_eq, x0_eq, x2_eq, x3_eq, chk_eq, true_and, and_true, List.set_cons_zero, List.set_cons_succ, List.eraseIdx_cons_zero, List.eraseIdx_cons_succ]
  simp only [xA_eq]
  refine ⟨rfl, ?_⟩
  simp only [nn_some, add_mk, Nat.zero_add, Nat.add_zero, Nat.reduceAdd, Nat.reduceMul, Option.isNone_some, Option.isNone_none, br_true, br_false, Bool.not_true, Bool.not_false, xI_eq, xB_eq, xS_eq, xP_eq, xL_eq, x0_eq, x2_eq, x3_eq, chk_eq, true_and, and_true, List.set_cons_zero, List.set_cons_succ, List.eraseIdx_cons_zero, List.eraseIdx_cons_succ]
  refine mk_of hs fun r w hs => ?_
  refine ⟨rfl, stN_pt (k := 0) hs rfl (Nat.le_of_ble_eq_true rfl) (by simp [Value.oneCell', headCells]) fun w hs => ?_⟩
  rw [over_all (by simp [headCells])] at hs
  simp only [nn_some, add_mk, Nat.zero_add, Nat.add_zero, Nat.reduceAdd, Nat.reduceMul, Option.isNone_some, Option.isNone_none, br_true, br_false, Bool.not_true, Bool.not_false, xI_eq, xB_eq, xS_eq, xP_eq, xL_eq, x0_eq, x2_eq, x3_eq, chk_eq, true_and, and_true, List.set_cons_zero, List.set_cons_succ, List.eraseIdx_cons_zero, List.eraseIdx_cons_succ] at hs
  rw [beq_self_eq_true, br_true]
  refine ldN_pt (k := 0) (xs := headCells ⟨3, 5, 0, 0⟩) hs rfl rfl (fun j v hj => by rw [Nat.zero_add]; exact hj) ?_
  refine ⟨by simp, ⟨⟨rfl, rfl⟩, ?_⟩⟩
  have e3 : eqCells (headCells ⟨3, 5, 0, 0⟩) [.int .i64 3, .int .i64 5, .int .i64 0, .int .i64 0] = true := by decide
  rw [e3]
  exact hK w hs.drop.drop

theorem Reads_spec {s : ByteArray} {K : VK} (hs : St W w L) (hsz : s.size ≤ reachBytes) (hK : ∀ w', St W w' L → K (.bool true) w') : bondstorelaw08_CrownReads s K w := by
  have hsz' : s.size ≤ 140737488351232 := hsz
  unfold bondstorelaw08_CrownReads
  refine alive8_spec hs fun w hs => ?_
  simp only [nn_some, add_mk, Nat.zero_add, Nat.add_zero, Nat.reduceAdd, Nat.reduceMul, Option.isNone_some, Option.isNone_none, br_true, br_false, Bool.not_true, Bool.not_false, xI_eq, xB_eq, xS_eq, xP_eq, xL_eq, x0_eq, x2_eq, x3_eq, chk_eq, true_and, and_true, List.set_cons_zero, List.set_cons_succ, List.eraseIdx_cons_zero, List.eraseIdx_cons_succ]
  refine br_dec (fun _ => hK w hs) (fun h100 => ?_)
  rw [show s = bs s.data.toList from rfl]
  refine cRead_spec hs (by rw [toList_length]; omega) fun w hs => ?_
  cases hr : readH s.data.toList with
  | none =>
    unfold headRes
    simp only [nn_some, add_mk, Nat.zero_add, Nat.add_zero, Nat.reduceAdd, Nat.reduceMul, Option.isNone_some, Option.isNone_none, br_true, br_false, Bool.not_true, Bool.not_false, xI_eq, xB_eq, xS_eq, xP_eq, xL_eq, x0_eq, x2_eq, x3_eq, chk_eq, true_and, and_true, List.set_cons_zero, List.set_cons_succ, List.eraseIdx_cons_zero, List.eraseIdx_cons_succ]
    simp only [xA_eq]
    refine ⟨rfl, ?_⟩
    simp only [nn_some, add_mk, Nat.zero_add, Nat.add_zero, Nat.reduceAdd, Nat.reduceMul, Option.isNone_some, Option.isNone_none, br_true, br_false, Bool.not_true, Bool.not_false, xI_eq, xB_eq, xS_eq, xP_eq, xL_eq, x0_eq, x2_eq, x3_eq, chk_eq, true_and, and_true, List.set_cons_zero, List.set_cons_succ, List.eraseIdx_cons_zero, List.eraseIdx_cons_succ]
    refine mk_of hs fun r w hs => ?_
    refine ⟨rfl, stN_pt (k := 0) hs rfl (Nat.le_of_ble_eq_true rfl) (by simp [Value.oneCell', headCells]) fun w hs => ?_⟩
    rw [over_all (by simp [headCells, zeroH])] at hs
    simp only [nn_some, add_mk, Nat.zero_add, Nat.add_zero, Nat.reduceAdd, Nat.reduceMul, Option.isNone_some, Option.isNone_none, br_true, br_false, Bool.not_true, Bool.not_false, xI_eq, xB_eq, xS_eq, xP_eq, xL_eq, x0_eq, x2_eq, x3_eq, chk_eq, true_and, and_true, List.set_cons_zero, List.set_cons_succ, List.eraseIdx_cons_zero, List.eraseIdx_cons_succ] at hs
    refine ldN_pt (k := 0) (xs := headCells zeroH) hs rfl rfl (fun j v hj => by rw [Nat.zero_add]; exact hj) ?_
    refine ⟨by simp, ⟨⟨rfl, rfl⟩, ?_⟩⟩
    have e3 : eqCells (headCells zeroH) [.int .i64 0, .int .i64 0, .int .i64 0, .int .i64 0] = true := by decide
    rw [e3]
    exact hK w hs.drop
  | some h =>
    obtain ⟨hg, hl⟩ := readH_headL hr
    unfold headRes
    simp only [nn_some, add_mk, Nat.zero_add, Nat.add_zero, Nat.reduceAdd, Nat.reduceMul, Option.isNone_some, Option.isNone_none, br_true, br_false, Bool.not_true, Bool.not_false, xI_eq, xB_eq, xS_eq, xP_eq, xL_eq, x0_eq, x2_eq, x3_eq, chk_eq, true_and, and_true, List.set_cons_zero, List.set_cons_succ, List.eraseIdx_cons_zero, List.eraseIdx_cons_succ]
    simp only [xA_eq]
    refine ⟨rfl, ?_⟩
    simp only [nn_some, add_mk, Nat.zero_add, Nat.add_zero, Nat.reduceAdd, Nat.reduceMul, Option.isNone_some, Option.isNone_none, br_true, br_false, Bool.not_true, Bool.not_false, xI_eq, xB_eq, xS_eq, xP_eq, xL_eq, x0_eq, x2_eq, x3_eq, chk_eq, true_and, and_true, List.set_cons_zero, List.set_cons_succ, List.eraseIdx_cons_zero, List.eraseIdx_cons_succ]
    refine mk_of hs fun r w hs => ?_
    refine ⟨rfl, stN_pt (k := 0) hs rfl (Nat.le_of_ble_eq_true rfl) (by simp [Value.oneCell', headCells]) fun w hs => ?_⟩
    rw [over_all (by simp [headCells])] at hs
    simp only [nn_some, add_mk, Nat.zero_add, Nat.add_zero, Nat.reduceAdd, Nat.reduceMul, Option.isNone_some, Option.isNone_none, br_true, br_false, Bool.not_true, Bool.not_false, xI_eq, xB_eq, xS_eq, xP_eq, xL_eq, x0_eq, x2_eq, x3_eq, chk_eq, true_and, and_true, List.set_cons_zero, List.set_cons_succ, List.eraseIdx_cons_zero, List.eraseIdx_cons_succ] at hs
    refine ldN_pt (k := 0) (xs := headCells h) hs rfl rfl (fun j v hj => by rw [Nat.zero_add]; exact hj) ?_
    refine good8_spec hs fun w hs => ?_
    rw [decide_eq_true hg]
    simp only [nn_some, add_mk, Nat.zero_add, Nat.add_zero, Nat.reduceAdd, Nat.reduceMul, Option.isNone_some, Option.isNone_none, br_true, br_false, Bool.not_true, Bool.not_false, xI_eq, xB_eq, xS_eq, xP_eq, xL_eq, x0_eq, x2_eq, x3_eq, chk_eq, true_and, and_true, List.set_cons_zero, List.set_cons_succ, List.eraseIdx_cons_zero, List.eraseIdx_cons_succ]
    refine ldN_pt (k := 0) (xs := headCells h) hs rfl rfl (fun j v hj => by rw [Nat.zero_add]; exact hj) ?_
    refine bytes8_spec hs fun w hs => ?_
    simp only [nn_some, add_mk, Nat.zero_add, Nat.add_zero, Nat.reduceAdd, Nat.reduceMul, Option.isNone_some, Option.isNone_none, br_true, br_false, Bool.not_true, Bool.not_false, xI_eq, xB_eq, xS_eq, xP_eq, xL_eq, x0_eq, x2_eq, x3_eq, chk_eq, true_and, and_true, List.set_cons_zero, List.set_cons_succ, List.eraseIdx_cons_zero, List.eraseIdx_cons_succ]
    rw [hl, strEq_iff, decide_eq_true rfl]
    exact hK w hs.drop

theorem Reads_ok {a0 : ByteArray} (w0 : a0.size ≤ reachBytes) : bondstorelaw08_CrownReads.u [.string a0] (fun v w' => v = .bool true ∧ Below W.heap.size W w') W := by
  unfold bondstorelaw08_CrownReads.u
  exact Reads_spec (K := fun v w' => v = .bool true ∧ Below W.heap.size W w') (St.start W) w0 (fun w' h => ⟨rfl, h.below⟩)
end
end Go.Sep

/- The law CrownBytes. -/
namespace Go.Sep
open Go.Den Go.RowKit Go.Prog Go.Plat
set_option linter.unusedSimpArgs false
set_option linter.unusedVariables false

section
variable {W w : World} {L : List HP}

theorem CBytes_spec {h : PHead} {K : VK} (hs : St W w L) (hK : ∀ w', St W w' L → K (.bool true) w') : bondstorelaw08_CrownBytes (headCells h) K w := by
  unfold bondstorelaw08_CrownBytes
  refine mk_of hs fun r w hs => ?_
  refine alive8_spec hs fun w hs => ?_
  simp only [nn_some, add_mk, Nat.zero_add, Nat.add_zero, Nat.reduceAdd, Nat.reduceMul, Option.isNone_some, Option.isNone_none, br_true, br_false, Bool.not_true, Bool.not_false, xI_eq, xB_eq, xS_eq, xP_eq, xL_eq, x0_eq, x2_eq, x3_eq, chk_eq, true_and, and_true, List.set_cons_zero, List.set_cons_succ, List.eraseIdx_cons_zero, List.eraseIdx_cons_succ]
  refine ldN_pt (k := 0) (xs := headCells h) hs rfl rfl (fun j v hj => by rw [Nat.zero_add]; exact hj) ?_
  refine cBytes_spec hs fun w hs => ?_
  simp only [nn_some, add_mk, Nat.zero_add, Nat.add_zero, Nat.reduceAdd, Nat.reduceMul, Option.isNone_some, Option.isNone_none, br_true, br_false, Bool.not_true, Bool.not_false, xI_eq, xB_eq, xS_eq, xP_eq, xL_eq, x0_eq, x2_eq, x3_eq, chk_eq, true_and, and_true, List.set_cons_zero, List.set_cons_succ, List.eraseIdx_cons_zero, List.eraseIdx_cons_succ]
  refine tick_of hs fun w hs => ?_
  refine ldN_pt (k := 0) (xs := headCells h) hs rfl rfl (fun j v hj => by rw [Nat.zero_add]; exact hj) ?_
  refine ldN_pt (k := 0) (xs := headCells h) hs rfl rfl (fun j v hj => by rw [Nat.zero_add]; exact hj) ?_
  refine cGood_spec hs fun w hs => ?_
  simp only [nn_some, add_mk, Nat.zero_add, Nat.add_zero, Nat.reduceAdd, Nat.reduceMul, Option.isNone_some, Option.isNone_none, br_true, br_false, Bool.not_true, Bool.not_false, xI_eq, xB_eq, xS_eq, xP_eq, xL_eq, x0_eq, x2_eq, x3_eq, chk_eq, true_and, and_true, List.set_cons_zero, List.set_cons_succ, List.eraseIdx_cons_zero, List.eraseIdx_cons_succ]
  refine kp_pt (k := 0) hs rfl (fun j v hj => by rw [Nat.zero_add]; exact hj) ?_
  refine good8_spec hs fun w hs => ?_
  simp only [nn_some, add_mk, Nat.zero_add, Nat.add_zero, Nat.reduceAdd, Nat.reduceMul, Option.isNone_some, Option.isNone_none, br_true, br_false, Bool.not_true, Bool.not_false, xI_eq, xB_eq, xS_eq, xP_eq, xL_eq, x0_eq, x2_eq, x3_eq, chk_eq, true_and, and_true, List.set_cons_zero, List.set_cons_succ, List.eraseIdx_cons_zero, List.eraseIdx_cons_succ]
  rw [beq_self_eq_true]
  simp only [nn_some, add_mk, Nat.zero_add, Nat.add_zero, Nat.reduceAdd, Nat.reduceMul, Option.isNone_some, Option.isNone_none, br_true, br_false, Bool.not_true, Bool.not_false, xI_eq, xB_eq, xS_eq, xP_eq, xL_eq, x0_eq, x2_eq, x3_eq, chk_eq, true_and, and_true, List.set_cons_zero, List.set_cons_succ, List.eraseIdx_cons_zero, List.eraseIdx_cons_succ]
  refine ldN_pt (k := 0) (xs := headCells h) hs rfl rfl (fun j v hj => by rw [Nat.zero_add]; exact hj) ?_
  refine good8_spec hs fun w hs => ?_
  unfold headSum bondstorelaw08_CrownBytes.j1
  by_cases hg : HGood h
  · rw [decide_eq_true hg, if_pos hg]
    simp only [nn_some, add_mk, Nat.zero_add, Nat.add_zero, Nat.reduceAdd, Nat.reduceMul, Option.isNone_some, Option.isNone_none, br_true, br_false, Bool.not_true, Bool.not_false, xI_eq, xB_eq, xS_eq, xP_eq, xL_eq, x0_eq, x2_eq, x3_eq, chk_eq, true_and, and_true, List.set_cons_zero, List.set_cons_succ, List.eraseIdx_cons_zero, List.eraseIdx_cons_succ]
    refine cRead_spec hs (by rw [headL_length]; decide) fun w hs => ?_
    rw [headL_readH hg]
    unfold headRes
    simp only [nn_some, add_mk, Nat.zero_add, Nat.add_zero, Nat.reduceAdd, Nat.reduceMul, Option.isNone_some, Option.isNone_none, br_true, br_false, Bool.not_true, Bool.not_false, xI_eq, xB_eq, xS_eq, xP_eq, xL_eq, x0_eq, x2_eq, x3_eq, chk_eq, true_and, and_true, List.set_cons_zero, List.set_cons_succ, List.eraseIdx_cons_zero, List.eraseIdx_cons_succ]
    simp only [xA_eq]
    refine ⟨rfl, ?_⟩
    simp only [nn_some, add_mk, Nat.zero_add, Nat.add_zero, Nat.reduceAdd, Nat.reduceMul, Option.isNone_some, Option.isNone_none, br_true, br_false, Bool.not_true, Bool.not_false, xI_eq, xB_eq, xS_eq, xP_eq, xL_eq, x0_eq, x2_eq, x3_eq, chk_eq, true_and, and_true, List.set_cons_zero, List.set_cons_succ, List.eraseIdx_cons_zero, List.eraseIdx_cons_succ]
    refine mk_of hs fun r2 w hs => ?_
    refine ⟨rfl, stN_pt (k := 0) hs rfl (Nat.le_of_ble_eq_true rfl) (by simp [Value.oneCell', headCells]) fun w hs => ?_⟩
    rw [over_all (by simp [headCells])] at hs
    simp only [nn_some, add_mk, Nat.zero_add, Nat.add_zero, Nat.reduceAdd, Nat.reduceMul, Option.isNone_some, Option.isNone_none, br_true, br_false, Bool.not_true, Bool.not_false, xI_eq, xB_eq, xS_eq, xP_eq, xL_eq, x0_eq, x2_eq, x3_eq, chk_eq, true_and, and_true, List.set_cons_zero, List.set_cons_succ, List.eraseIdx_cons_zero, List.eraseIdx_cons_succ] at hs
    rw [beq_self_eq_true, br_true]
    refine ldN_pt (k := 1) (xs := headCells h) hs rfl rfl (fun j v hj => by rw [Nat.zero_add]; exact hj) ?_
    refine bytes8_spec hs fun w hs => ?_
    simp only [nn_some, add_mk, Nat.zero_add, Nat.add_zero, Nat.reduceAdd, Nat.reduceMul, Option.isNone_some, Option.isNone_none, br_true, br_false, Bool.not_true, Bool.not_false, xI_eq, xB_eq, xS_eq, xP_eq, xL_eq, x0_eq, x2_eq, x3_eq, chk_eq, true_and, and_true, List.set_cons_zero, List.set_cons_succ, List.eraseIdx_cons_zero, List.eraseIdx_cons_succ]
    rw [strEq_iff, decide_eq_true rfl]
    simp only [nn_some, add_mk, Nat.zero_add, Nat.add_zero, Nat.reduceAdd, Nat.reduceMul, Option.isNone_some, Option.isNone_none, br_true, br_false, Bool.not_true, Bool.not_false, xI_eq, xB_eq, xS_eq, xP_eq, xL_eq, x0_eq, x2_eq, x3_eq, chk_eq, true_and, and_true, List.set_cons_zero, List.set_cons_succ, List.eraseIdx_cons_zero, List.eraseIdx_cons_succ]
    refine ldN_pt (k := 0) (xs := headCells h) hs rfl rfl (fun j v hj => by rw [Nat.zero_add]; exact hj) ?_
    refine ldN_pt (k := 1) (xs := headCells h) hs rfl rfl (fun j v hj => by rw [Nat.zero_add]; exact hj) ?_
    refine ⟨⟨rfl, rfl⟩, ?_⟩
    rw [eqCells_head, decide_eq_true rfl]
    exact hK w hs.drop.drop
  · rw [decide_eq_false hg, if_neg hg]
    simp only [nn_some, add_mk, Nat.zero_add, Nat.add_zero, Nat.reduceAdd, Nat.reduceMul, Option.isNone_some, Option.isNone_none, br_true, br_false, Bool.not_true, Bool.not_false, xI_eq, xB_eq, xS_eq, xP_eq, xL_eq, x0_eq, x2_eq, x3_eq, chk_eq, true_and, and_true, List.set_cons_zero, List.set_cons_succ, List.eraseIdx_cons_zero, List.eraseIdx_cons_succ]
    rw [beq_self_eq_true, br_true]
    have e : strEq (bs []) (⟨#[]⟩ : ByteArray) = true := by rw [strEq_iff]; exact decide_eq_true rfl
    rw [e]
    exact hK w hs.drop

theorem CBytes_ok {a0 : List Value} (l0 : a0.length = 4) (ty0 : Typed [.i .i64, .i .i64, .i .i64, .i .i64] a0 0) : bondstorelaw08_CrownBytes.u [.agg ⟨a0⟩] (fun v w' => v = .bool true ∧ Below W.heap.size W w') W := by
  obtain ⟨v0, g0, n0, rfl, _⟩ := ty0 0 _ rfl
  obtain ⟨v1, g1, n1, rfl, _⟩ := ty0 1 _ rfl
  obtain ⟨v2, g2, n2, rfl, _⟩ := ty0 2 _ rfl
  obtain ⟨v3, g3, n3, rfl, _⟩ := ty0 3 _ rfl
  have e : a0 = headCells ⟨n0, n1, n2, n3⟩ := by
    apply List.ext_getElem?
    intro j
    match j with
    | 0 => exact g0
    | 1 => exact g1
    | 2 => exact g2
    | 3 => exact g3
    | j + 4 => rw [List.getElem?_eq_none (by omega), List.getElem?_eq_none (by simp [headCells])]
  subst e
  unfold bondstorelaw08_CrownBytes.u
  exact CBytes_spec (K := fun v w' => v = .bool true ∧ Below W.heap.size W w') (St.start W) (fun w' h => ⟨rfl, h.below⟩)
end
end Go.Sep
