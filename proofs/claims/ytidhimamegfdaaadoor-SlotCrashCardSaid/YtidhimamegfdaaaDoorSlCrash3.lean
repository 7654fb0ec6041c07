/- The law SlotCrash: the walk. -/
import Derived.Test.YtidhimamegfdaaaDoorSlCrash2
namespace Go.Sep
open Go.Den Go.RowKit Go.Prog Go.Plat
set_option linter.unusedSimpArgs false
set_option linter.unusedVariables false

/-- What was put touches just its own sectors. -/
theorem put_rest {n : Nat} {D : Disk} {which number : Int} {s : ByteArray} (h : Calm n D) (h12 : 12 ≤ n) (h4096 : n ≤ 4096) (hnum : 1 ≤ number ∧ number ≤ 1152921504606846976) (hl : cnt s.size ≤ pSize n) :
    ∀ j : Nat, j < n → (j < slotAt n which ∨ slotAt n which + cnt s.size ≤ j) → ((put D n which number s).1.read (j : Int)).1 = (D.read (j : Int)).1 := by
  have hin := slotAt_in h12 which
  have e : lay D (slotAt n which) ((slotAt n which + pSize n : Nat) : Int) number s = layF (slotAt n which) number s D 0 (cnt s.size) := by
    unfold lay
    rw [if_neg (by rw [h.len]; omega), if_neg (by omega)]
  have hl0 := layF0 (at' := ((slotAt n which : Nat) : Int)) (number := number) (s := s) hnum (by omega) (cnt s.size) 0 (D := D) h.arm (by rw [h.len]; omega) (by omega)
  have hok := layF_ok (at' := ((slotAt n which : Nat) : Int)) (number := number) (s := s) (cnt s.size) 0 h.ok (by have := h.later; omega)
  unfold put
  rw [e]
  obtain ⟨l1, l2, l3, l4, l5⟩ := hl0
  rw [if_neg (fun hh => hh l1)]
  generalize (layF ((slotAt n which : Nat) : Int) number s D 0 (cnt s.size)).1 = D1 at *
  have hlen1 : D1.safe.length = n := by rw [l3]; exact h.len
  intro j hj hj2
  have h1 : D1.sync.1.is (j : Int) := ⟨by omega, by rw [Dk.sync_len.1, hlen1]; omega⟩
  have h2 : D1.is (j : Int) := ⟨by omega, by rw [hlen1]; omega⟩
  have h3 : D.is (j : Int) := ⟨by omega, by rw [h.len]; omega⟩
  unfold Disk.read
  rw [if_pos h1, if_pos h3]
  rw [← l5 (j : Int) (by omega)]
  exact Dk.now_sync0 l2 hok.1 h2

theorem put_ok {n : Nat} {D : Disk} {which number : Int} {s : ByteArray} (h : D.Ok) (hl : D.later.length + cnt s.size < 1099511627776) : (put D n which number s).1.Ok := by
  have := (lay_ok (at' := ((slotAt n which : Nat) : Int)) (number := number) (s := s) (to := ((slotAt n which + pSize n : Nat) : Int)) h hl).1
  unfold put
  split
  · exact this
  · exact sync_ok this

theorem slotAt_0 (n : Nat) : slotAt n 0 = 2 := by unfold slotAt; rw [if_pos (by decide +kernel)]
theorem slotAt_1 (n : Nat) : slotAt n 1 = 2 + pSize n := by unfold slotAt; rw [if_neg (by decide +kernel)]

section
variable {W w : World} {L : List HP}

theorem SlotCrash_spec {n fail mask torn cut : Int} {a b : ByteArray} {K : VK} (h : St W w L) (ha : a.size ≤ reachBytes) (hb : b.size ≤ reachBytes) (hK : ∀ w', St W w' L → K (.bool true) w') : bondstorelaw07_SlotCrash n a b fail mask torn cut K w := by
  have ha' : a.size ≤ 140737488351232 := ha
  have hb' : b.size ≤ 140737488351232 := hb
  unfold bondstorelaw07_SlotCrash
  refine alive7_spec h fun w h => ?_
  simp only [nn_some, add_mk, Nat.zero_add, Nat.add_zero, Nat.reduceAdd, Nat.reduceMul, Option.isNone_some, Option.isNone_none, br_true, br_false, Bool.not_true, Bool.not_false, xI_eq, xB_eq, xS_eq, xP_eq, xL_eq, x0_eq, x2_eq, x3_eq, chk_eq, true_and, and_true, List.set_cons_zero, List.set_cons_succ, List.eraseIdx_cons_zero, List.eraseIdx_cons_succ]
  have go : ∀ c, (c = false → 12 ≤ n ∧ n ≤ 60) → bondstorelaw07_SlotCrash.j1 K n a fail b mask torn cut c w := fun c hc => by
    unfold bondstorelaw07_SlotCrash.j1
    refine br_of (fun _ => hK w h) (fun hf => ?_)
    obtain ⟨h12, h60⟩ := hc hf
    obtain ⟨m, rfl⟩ := Int.eq_ofNat_of_zero_le (show 0 ≤ n by omega)
    have m12 : 12 ≤ m := by omega
    have m4096 : m ≤ 4096 := by omega
    have hps : 2 + 2 * pSize m < m := by unfold pSize; omega
    refine Of_spec (n := m) h m12 m4096 fun w h => ?_
    simp only [nn_some, add_mk, Nat.zero_add, Nat.add_zero, Nat.reduceAdd, Nat.reduceMul, Option.isNone_some, Option.isNone_none, br_true, br_false, Bool.not_true, Bool.not_false, xI_eq, xB_eq, xS_eq, xP_eq, xL_eq, x0_eq, x2_eq, x3_eq, chk_eq, true_and, and_true, List.set_cons_zero, List.set_cons_succ, List.eraseIdx_cons_zero, List.eraseIdx_cons_succ]
    simp only [xA_eq]
    refine ⟨rfl, ?_⟩
    simp only [nn_some, add_mk, Nat.zero_add, Nat.add_zero, Nat.reduceAdd, Nat.reduceMul, Option.isNone_some, Option.isNone_none, br_true, br_false, Bool.not_true, Bool.not_false, xI_eq, xB_eq, xS_eq, xP_eq, xL_eq, x0_eq, x2_eq, x3_eq, chk_eq, true_and, and_true, List.set_cons_zero, List.set_cons_succ, List.eraseIdx_cons_zero, List.eraseIdx_cons_succ]
    refine mk_of h fun r w hs => ?_
    refine ⟨rfl, stN_pt (k := 0) hs rfl (Nat.le_of_ble_eq_true rfl) (by simp [Value.oneCell', planCells]) fun w hs => ?_⟩
    rw [over_all (by simp [planCells])] at hs
    simp only [nn_some, add_mk, Nat.zero_add, Nat.add_zero, Nat.reduceAdd, Nat.reduceMul, Option.isNone_some, Option.isNone_none, br_true, br_false, Bool.not_true, Bool.not_false, xI_eq, xB_eq, xS_eq, xP_eq, xL_eq, x0_eq, x2_eq, x3_eq, chk_eq, true_and, and_true, List.set_cons_zero, List.set_cons_succ, List.eraseIdx_cons_zero, List.eraseIdx_cons_succ] at hs
    refine New_spec hs fun d w hs => ?_
    simp only [nn_some, add_mk, Nat.zero_add, Nat.add_zero, Nat.reduceAdd, Nat.reduceMul, Option.isNone_some, Option.isNone_none, br_true, br_false, Bool.not_true, Bool.not_false, xI_eq, xB_eq, xS_eq, xP_eq, xL_eq, x0_eq, x2_eq, x3_eq, chk_eq, true_and, and_true, List.set_cons_zero, List.set_cons_succ, List.eraseIdx_cons_zero, List.eraseIdx_cons_succ]
    have hcm := calm_new m4096
    refine ldN_pt (k := 1) (xs := planCells m) hs rfl rfl (fun j v hj => by rw [Nat.zero_add]; exact hj) ?_
    refine Fits_spec hs (by omega) fun w hs => ?_
    simp only [nn_some, add_mk, Nat.zero_add, Nat.add_zero, Nat.reduceAdd, Nat.reduceMul, Option.isNone_some, Option.isNone_none, br_true, br_false, Bool.not_true, Bool.not_false, xI_eq, xB_eq, xS_eq, xP_eq, xL_eq, x0_eq, x2_eq, x3_eq, chk_eq, true_and, and_true, List.set_cons_zero, List.set_cons_succ, List.eraseIdx_cons_zero, List.eraseIdx_cons_succ]
    by_cases hfa : cnt a.size ≤ pSize m
    case neg =>
      rw [decide_eq_false hfa]
      simp only [nn_some, add_mk, Nat.zero_add, Nat.add_zero, Nat.reduceAdd, Nat.reduceMul, Option.isNone_some, Option.isNone_none, br_true, br_false, Bool.not_true, Bool.not_false, xI_eq, xB_eq, xS_eq, xP_eq, xL_eq, x0_eq, x2_eq, x3_eq, chk_eq, true_and, and_true, List.set_cons_zero, List.set_cons_succ, List.eraseIdx_cons_zero, List.eraseIdx_cons_succ]
      unfold bondstorelaw07_SlotCrash.j2
      simp only [nn_some, add_mk, Nat.zero_add, Nat.add_zero, Nat.reduceAdd, Nat.reduceMul, Option.isNone_some, Option.isNone_none, br_true, br_false, Bool.not_true, Bool.not_false, xI_eq, xB_eq, xS_eq, xP_eq, xL_eq, x0_eq, x2_eq, x3_eq, chk_eq, true_and, and_true, List.set_cons_zero, List.set_cons_succ, List.eraseIdx_cons_zero, List.eraseIdx_cons_succ]
      exact hK _ hs.drop.drop
    rw [decide_eq_true hfa]
    simp only [nn_some, add_mk, Nat.zero_add, Nat.add_zero, Nat.reduceAdd, Nat.reduceMul, Option.isNone_some, Option.isNone_none, br_true, br_false, Bool.not_true, Bool.not_false, xI_eq, xB_eq, xS_eq, xP_eq, xL_eq, x0_eq, x2_eq, x3_eq, chk_eq, true_and, and_true, List.set_cons_zero, List.set_cons_succ, List.eraseIdx_cons_zero, List.eraseIdx_cons_succ]
    refine ldN_pt (k := 1) (xs := planCells m) hs rfl rfl (fun j v hj => by rw [Nat.zero_add]; exact hj) ?_
    refine Fits_spec hs (by omega) fun w hs => ?_
    simp only [nn_some, add_mk, Nat.zero_add, Nat.add_zero, Nat.reduceAdd, Nat.reduceMul, Option.isNone_some, Option.isNone_none, br_true, br_false, Bool.not_true, Bool.not_false, xI_eq, xB_eq, xS_eq, xP_eq, xL_eq, x0_eq, x2_eq, x3_eq, chk_eq, true_and, and_true, List.set_cons_zero, List.set_cons_succ, List.eraseIdx_cons_zero, List.eraseIdx_cons_succ]
    by_cases hfb : cnt b.size ≤ pSize m
    case neg =>
      rw [decide_eq_false hfb]
      simp only [nn_some, add_mk, Nat.zero_add, Nat.add_zero, Nat.reduceAdd, Nat.reduceMul, Option.isNone_some, Option.isNone_none, br_true, br_false, Bool.not_true, Bool.not_false, xI_eq, xB_eq, xS_eq, xP_eq, xL_eq, x0_eq, x2_eq, x3_eq, chk_eq, true_and, and_true, List.set_cons_zero, List.set_cons_succ, List.eraseIdx_cons_zero, List.eraseIdx_cons_succ]
      unfold bondstorelaw07_SlotCrash.j2
      simp only [nn_some, add_mk, Nat.zero_add, Nat.add_zero, Nat.reduceAdd, Nat.reduceMul, Option.isNone_some, Option.isNone_none, br_true, br_false, Bool.not_true, Bool.not_false, xI_eq, xB_eq, xS_eq, xP_eq, xL_eq, x0_eq, x2_eq, x3_eq, chk_eq, true_and, and_true, List.set_cons_zero, List.set_cons_succ, List.eraseIdx_cons_zero, List.eraseIdx_cons_succ]
      exact hK _ hs.drop.drop
    rw [decide_eq_true hfb]
    simp only [nn_some, add_mk, Nat.zero_add, Nat.add_zero, Nat.reduceAdd, Nat.reduceMul, Option.isNone_some, Option.isNone_none, br_true, br_false, Bool.not_true, Bool.not_false, xI_eq, xB_eq, xS_eq, xP_eq, xL_eq, x0_eq, x2_eq, x3_eq, chk_eq, true_and, and_true, List.set_cons_zero, List.set_cons_succ, List.eraseIdx_cons_zero, List.eraseIdx_cons_succ]
    refine ldN_pt (k := 1) (xs := planCells m) hs rfl rfl (fun j v hj => by rw [Nat.zero_add]; exact hj) ?_
    obtain ⟨p1, p2, p3, _⟩ := put_fits (which := 0) (number := 1) (s := a) hcm m12 m4096 (by decide) hfa
    have p4 := put_rest (which := 0) (number := 1) (s := a) hcm m12 m4096 (by decide) hfa
    have p5 := put_later (which := 0) (number := 1) (s := a) hcm m12 m4096 (by decide) hfa
    rw [slotAt_0] at p3 p4
    refine Put_spec (n := m) (k := 0) hs rfl hcm.ok m12 m4096 (by have := hcm.later; omega) ha fun w hs => ?_
    simp only [nn_some, add_mk, Nat.zero_add, Nat.add_zero, Nat.reduceAdd, Nat.reduceMul, Option.isNone_some, Option.isNone_none, br_true, br_false, Bool.not_true, Bool.not_false, xI_eq, xB_eq, xS_eq, xP_eq, xL_eq, x0_eq, x2_eq, x3_eq, chk_eq, true_and, and_true, List.set_cons_zero, List.set_cons_succ, List.eraseIdx_cons_zero, List.eraseIdx_cons_succ] at hs ⊢
    rw [p1, bne_self_eq_false]
    have hz : ∀ j, j < m → ((Disk.new m).read (j : Int)).1 = zeros 128 := fun j hj => new_read m4096 hj
    generalize (put (Disk.new m) m 0 1 a).1 = D1 at *
    unfold bondstorelaw07_SlotCrash.j2
    simp only [nn_some, add_mk, Nat.zero_add, Nat.add_zero, Nat.reduceAdd, Nat.reduceMul, Option.isNone_some, Option.isNone_none, br_true, br_false, Bool.not_true, Bool.not_false, xI_eq, xB_eq, xS_eq, xP_eq, xL_eq, x0_eq, x2_eq, x3_eq, chk_eq, true_and, and_true, List.set_cons_zero, List.set_cons_succ, List.eraseIdx_cons_zero, List.eraseIdx_cons_succ]
    refine Disk_Arm_spec (k := 0) hs rfl fun w hs => ?_
    simp only [nn_some, add_mk, Nat.zero_add, Nat.add_zero, Nat.reduceAdd, Nat.reduceMul, Option.isNone_some, Option.isNone_none, br_true, br_false, Bool.not_true, Bool.not_false, xI_eq, xB_eq, xS_eq, xP_eq, xL_eq, x0_eq, x2_eq, x3_eq, chk_eq, true_and, and_true, List.set_cons_zero, List.set_cons_succ, List.eraseIdx_cons_zero, List.eraseIdx_cons_succ] at hs ⊢
    have hok1 := armed_ok p2.ok fail
    have hr1 : ∀ j : Nat, ((D1.armed fail).read (j : Int)).1 = (D1.read (j : Int)).1 := fun _ => rfl
    have hlat1 : (D1.armed fail).later = [] := p5
    have hlen1 : (D1.armed fail).safe.length = m := p2.len
    generalize D1.armed fail = DA at *
    refine ldN_pt (k := 1) (xs := planCells m) hs rfl rfl (fun j v hj => by rw [Nat.zero_add]; exact hj) ?_
    refine Put_spec (n := m) (k := 0) hs rfl hok1 m12 m4096 (by rw [hlat1]; decide) hb fun w hs => ?_
    simp only [nn_some, add_mk, Nat.zero_add, Nat.add_zero, Nat.reduceAdd, Nat.reduceMul, Option.isNone_some, Option.isNone_none, br_true, br_false, Bool.not_true, Bool.not_false, xI_eq, xB_eq, xS_eq, xP_eq, xL_eq, x0_eq, x2_eq, x3_eq, chk_eq, true_and, and_true, List.set_cons_zero, List.set_cons_succ, List.eraseIdx_cons_zero, List.eraseIdx_cons_succ] at hs ⊢
    have hpok : (put DA m 1 2 b).1.Ok := put_ok hok1 (by rw [hlat1, List.length_nil]; omega)
    obtain ⟨c1, c2, c3, c4⟩ := put_crash (which := 1) (number := 2) (mask := mask) (torn := torn) (cut := cut) (s := b) hok1 hlat1 hlen1 m12 m4096 (by decide) hfb
    rw [slotAt_1] at c1 c2
    refine Disk_Crash_spec (k := 0) hs rfl hpok fun w hs => ?_
    simp only [nn_some, add_mk, Nat.zero_add, Nat.add_zero, Nat.reduceAdd, Nat.reduceMul, Option.isNone_some, Option.isNone_none, br_true, br_false, Bool.not_true, Bool.not_false, xI_eq, xB_eq, xS_eq, xP_eq, xL_eq, x0_eq, x2_eq, x3_eq, chk_eq, true_and, and_true, List.set_cons_zero, List.set_cons_succ, List.eraseIdx_cons_zero, List.eraseIdx_cons_succ] at hs ⊢
    generalize (put DA m 1 2 b).2 = e at *
    generalize (put DA m 1 2 b).1.crash mask torn cut = D2 at *
    -- what the sectors hold
    have s0 : ∀ q : Nat, q < cnt a.size → (D2.read ((2 + q : Nat) : Int)).1 = leaf 1 q (part a q) := fun q hq => by
      rcases c1 (2 + q) (by omega) with hh | ⟨q2, h1, h2, _⟩
      · rw [hh, hr1]
        have := p3 q hq
        rw [show ((2 + q : Nat) : Int) = ((2 : Nat) : Int) + (q : Int) from by omega]
        exact this
      · omega
    have s1 : ∀ q : Nat, q < cnt b.size → Mix (zeros 128) (leaf 2 q (part b q)) (D2.read ((2 + pSize m + q : Nat) : Int)).1 := fun q hq => by
      have hold : (DA.read ((2 + pSize m + q : Nat) : Int)).1 = zeros 128 := by
        rw [hr1, p4 _ (by omega) (by omega), hz _ (by omega)]
      rcases c1 (2 + pSize m + q) (by omega) with hh | ⟨q2, h1, h2, h3⟩
      · rw [hh, hold]; exact .inl rfl
      · have : q2 = q := by omega
        subst this
        rw [hold] at h3
        exact h3
    have sg : ∀ i : Nat, i < m → numOf (hd8 (D2.read (i : Int)).1) ≤ 2 ∧ numOf (tl8 (D2.read (i : Int)).1) ≤ 2 := fun i hi => by
      have hnz := numOf_zeros
      by_cases h0 : 2 ≤ i ∧ i < 2 + cnt a.size
      · have := s0 (i - 2) (by omega)
        rw [show 2 + (i - 2) = i from by omega] at this
        obtain ⟨e1, e2⟩ := leaf_ends (n := 1) (i := ((i - 2 : Nat) : Int)) (s := part a (i - 2)) ⟨by decide, by decide, by omega, by omega, part_size a (i - 2)⟩
        rw [this, e1, e2]
        exact ⟨by decide, by decide⟩
      · by_cases h1 : 2 + pSize m ≤ i ∧ i < 2 + pSize m + cnt b.size
        · have := s1 (i - (2 + pSize m)) (by omega)
          rw [show 2 + pSize m + (i - (2 + pSize m)) = i from by omega] at this
          exact mix_two (by omega) this
        · rcases c1 i hi with hh | ⟨q2, h2, h3, _⟩
          · rw [hh, hr1, p4 i hi (by omega), hz i hi, hnz.1, hnz.2]
            exact ⟨by decide, by decide⟩
          · omega
    have hgr : grTo D2 m ≤ 2 := grTo_le (by decide) m sg
    have g0 : get D2 m 0 1 a.size = some a.data.toList := get_all c4 m12 m4096 (by decide) hfa fun q hq => by
      rw [slotAt_0, ← s0 q hq, show ((2 : Nat) : Int) + (q : Int) = ((2 + q : Nat) : Int) from by omega]
    have hgood : ∀ i : Nat, i < 4096 → Good 2 i (part b i) := fun i hi => ⟨by decide, by decide, by omega, by omega, part_size b i⟩
    have hlf : ∀ i : Nat, i < 4096 → leaf 2 i (part b i) = bs (leafL 2 i (part b i)) := fun i hi => by unfold leaf; rw [if_pos (hgood i hi)]
    have hcb : cnt b.size ≤ 60 := by omega
    have g1 : get D2 m 1 2 b.size = if (∀ i : Nat, i < cnt b.size → (D2.read ((2 + pSize m + i : Nat) : Int)).1 = leaf 2 i (part b i)) then some b.data.toList else none := by
      by_cases hall : ∀ i : Nat, i < cnt b.size → (D2.read ((2 + pSize m + i : Nat) : Int)).1 = leaf 2 i (part b i)
      · rw [if_pos hall]
        exact get_all c4 m12 m4096 (by decide) hfb fun q hq => by
          rw [slotAt_1, ← hall q hq, show ((2 + pSize m : Nat) : Int) + (q : Int) = ((2 + pSize m + q : Nat) : Int) from by omega]
      · rw [if_neg hall]
        have hex : ∃ q : Nat, q < cnt b.size ∧ (D2.read ((2 + pSize m + q : Nat) : Int)).1 ≠ leaf 2 q (part b q) := by
          by_cases hh : ∃ q : Nat, q < cnt b.size ∧ (D2.read ((2 + pSize m + q : Nat) : Int)).1 ≠ leaf 2 q (part b q)
          · exact hh
          · refine absurd (fun i hi => ?_) hall
            by_cases he : (D2.read ((2 + pSize m + i : Nat) : Int)).1 = leaf 2 i (part b i)
            · exact he
            · exact absurd ⟨i, hi, he⟩ hh
        obtain ⟨q, hq, hne⟩ := hex
        have hbs : b.size ≤ 104 * cnt b.size := by unfold cnt; split <;> omega
        unfold get take
        rw [slotAt_1, if_neg (by rw [c4, Int.toNat_natCast]; omega), Int.toNat_natCast]
        refine takeF_none (cnt b.size) 0 q (Nat.zero_le _) (by omega) fun x j dd hv hh => ?_
        have hx := hh.1
        subst hx
        rw [show ((2 + pSize m : Nat) : Int) + (q : Int) = ((2 + pSize m + q : Nat) : Int) from by omega] at hv
        have hnz := numOf_zeros
        exact hne (mix_leaf (by omega) (by decide) (zeros_size 128) (by omega) (by omega) (s1 q hq) hv)
    refine ldN_pt (k := 1) (xs := planCells m) hs rfl rfl (fun j v hj => by rw [Nat.zero_add]; exact hj) ?_
    refine Get_spec (n := m) (k := 0) hs rfl c3 m12 m4096 fun w hs => ?_
    rw [g0]
    unfold takeRes
    simp only [nn_some, add_mk, Nat.zero_add, Nat.add_zero, Nat.reduceAdd, Nat.reduceMul, Option.isNone_some, Option.isNone_none, br_true, br_false, Bool.not_true, Bool.not_false, xI_eq, xB_eq, xS_eq, xP_eq, xL_eq, x0_eq, x2_eq, x3_eq, chk_eq, true_and, and_true, List.set_cons_zero, List.set_cons_succ, List.eraseIdx_cons_zero, List.eraseIdx_cons_succ]
    refine ldN_pt (k := 1) (xs := planCells m) hs rfl rfl (fun j v hj => by rw [Nat.zero_add]; exact hj) ?_
    refine Get_spec (n := m) (k := 0) hs rfl c3 m12 m4096 fun w hs => ?_
    rw [g1]
    obtain ⟨t, ok, htr, h1, h2, h3⟩ : ∃ t ok, takeRes (if (∀ i : Nat, i < cnt b.size → (D2.read ((2 + pSize m + i : Nat) : Int)).1 = leaf 2 i (part b i)) then some b.data.toList else none) = .tuple ⟨[.string t, .bool ok]⟩ ∧
        ok = decide (∀ i : Nat, i < cnt b.size → (D2.read ((2 + pSize m + i : Nat) : Int)).1 = leaf 2 i (part b i)) ∧ (ok = true → t = b) ∧ (ok = false → t = .empty) := by
      by_cases hall : ∀ i : Nat, i < cnt b.size → (D2.read ((2 + pSize m + i : Nat) : Int)).1 = leaf 2 i (part b i)
      · exact ⟨b, true, by rw [if_pos hall]; rfl, by rw [decide_eq_true hall], fun _ => rfl, fun hh => (by cases hh)⟩
      · exact ⟨.empty, false, by rw [if_neg hall]; rfl, by rw [decide_eq_false hall], fun hh => (by cases hh), fun _ => rfl⟩
    rw [htr]
    simp only [nn_some, add_mk, Nat.zero_add, Nat.add_zero, Nat.reduceAdd, Nat.reduceMul, Option.isNone_some, Option.isNone_none, br_true, br_false, Bool.not_true, Bool.not_false, xI_eq, xB_eq, xS_eq, xP_eq, xL_eq, x0_eq, x2_eq, x3_eq, chk_eq, true_and, and_true, List.set_cons_zero, List.set_cons_succ, List.eraseIdx_cons_zero, List.eraseIdx_cons_succ]
    refine ⟨fun us w' => ∃ j : Nat, us = [.bool false, .pointer (some ⟨r, 0, none⟩), .pointer (some ⟨d, 0, none⟩), .int .i64 e, .string (bs a.data.toList), .bool true, .string t, .bool ok, .bool (decide (∀ i : Nat, i < j → (D2.read ((2 + pSize m + i : Nat) : Int)).1 = leaf 2 i (part b i))), .int .i64 j] ∧ j ≤ cnt b.size ∧ St W w' (disk d D2 :: pt r (planCells m) :: L),
      fun us _ => match us with | [_, _, _, _, _, _, _, _, _, .int _ j] => cnt b.size - j.toNat | _ => 0, ⟨0, by simp, Nat.zero_le _, hs⟩, ?_⟩
    rintro b6 a1 q2 n8 s5 b7 s6 b8 b9 n9 w2 ⟨j, he, hj, hs2⟩
    cases he
    refine rCount_spec (by omega) ?_
    simp only [nn_some, add_mk, Nat.zero_add, Nat.add_zero, Nat.reduceAdd, Nat.reduceMul, Option.isNone_some, Option.isNone_none, br_true, br_false, Bool.not_true, Bool.not_false, xI_eq, xB_eq, xS_eq, xP_eq, xL_eq, x0_eq, x2_eq, x3_eq, chk_eq, true_and, and_true, List.set_cons_zero, List.set_cons_succ, List.eraseIdx_cons_zero, List.eraseIdx_cons_succ]
    refine br_dec (fun hlt => ?_) (fun hge => ?_)
    · have e5 : IntKind.i64.wrap ((j : Int) + 1) = ((j + 1 : Nat) : Int) := by rw [wrap_id (by omega)]; omega
      have e6 : IntKind.i64.wrap (((2 + pSize m : Nat) : Int) + (j : Int)) = ((2 + pSize m + j : Nat) : Int) := by rw [wrap_id (by omega)]; omega
      refine ld_pt (k := 1) hs2 rfl (v := .int .i64 (2 + pSize m : Nat)) rfl ?_
      simp only [nn_some, add_mk, Nat.zero_add, Nat.add_zero, Nat.reduceAdd, Nat.reduceMul, Option.isNone_some, Option.isNone_none, br_true, br_false, Bool.not_true, Bool.not_false, xI_eq, xB_eq, xS_eq, xP_eq, xL_eq, x0_eq, x2_eq, x3_eq, chk_eq, true_and, and_true, List.set_cons_zero, List.set_cons_succ, List.eraseIdx_cons_zero, List.eraseIdx_cons_succ]
      rw [e6]
      refine Disk_Read_spec (k := 0) hs2 rfl c3 ?_
      simp only [nn_some, add_mk, Nat.zero_add, Nat.add_zero, Nat.reduceAdd, Nat.reduceMul, Option.isNone_some, Option.isNone_none, br_true, br_false, Bool.not_true, Bool.not_false, xI_eq, xB_eq, xS_eq, xP_eq, xL_eq, x0_eq, x2_eq, x3_eq, chk_eq, true_and, and_true, List.set_cons_zero, List.set_cons_succ, List.eraseIdx_cons_zero, List.eraseIdx_cons_succ]
      rw [e5]
      refine br_dec (fun hall => ?_) (fun hnot => ?_)
      · refine rPart_spec (by omega) hb ?_
        simp only [nn_some, add_mk, Nat.zero_add, Nat.add_zero, Nat.reduceAdd, Nat.reduceMul, Option.isNone_some, Option.isNone_none, br_true, br_false, Bool.not_true, Bool.not_false, xI_eq, xB_eq, xS_eq, xP_eq, xL_eq, x0_eq, x2_eq, x3_eq, chk_eq, true_and, and_true, List.set_cons_zero, List.set_cons_succ, List.eraseIdx_cons_zero, List.eraseIdx_cons_succ]
        refine rLeaf_spec hs2 (part_size b j) fun w h => ?_
        simp only [nn_some, add_mk, Nat.zero_add, Nat.add_zero, Nat.reduceAdd, Nat.reduceMul, Option.isNone_some, Option.isNone_none, br_true, br_false, Bool.not_true, Bool.not_false, xI_eq, xB_eq, xS_eq, xP_eq, xL_eq, x0_eq, x2_eq, x3_eq, chk_eq, true_and, and_true, List.set_cons_zero, List.set_cons_succ, List.eraseIdx_cons_zero, List.eraseIdx_cons_succ]
        refine ⟨⟨j + 1, ?_, by omega, h⟩, by omega⟩
        have e : strEq (D2.read ((2 + pSize m + j : Nat) : Int)).1 (bs (leafL 2 j (part b j))) = decide (∀ i : Nat, i < j + 1 → (D2.read ((2 + pSize m + i : Nat) : Int)).1 = leaf 2 i (part b i)) := by
          rw [strEq_iff, decide_eq_decide, ← hlf j (by omega)]
          constructor
          · intro hh i hi
            by_cases hij : i = j
            · subst hij; exact hh
            · exact hall i (by omega)
          · intro hh; exact hh j (by omega)
        rw [e]
      · refine ⟨⟨j + 1, ?_, by omega, hs2⟩, by omega⟩
        have e : decide (∀ i : Nat, i < j + 1 → (D2.read ((2 + pSize m + i : Nat) : Int)).1 = leaf 2 i (part b i)) = false := decide_eq_false (fun hh => hnot fun i hi => hh i (by omega))
        rw [e]
    · have hjc : j = cnt b.size := by omega
      subst hjc
      rw [← h1]
      have fin : ∀ w, St W w (disk d D2 :: pt r (planCells m) :: L) → stamp_Greatest (some ⟨d, 0, none⟩) (xI .i64 fun n13 => K (.bool (decide (n13 ≤ 2)))) w := fun w hs => by
        refine Greatest_spec (k := 0) hs rfl c3 fun w hs => ?_
        simp only [nn_some, add_mk, Nat.zero_add, Nat.add_zero, Nat.reduceAdd, Nat.reduceMul, Option.isNone_some, Option.isNone_none, br_true, br_false, Bool.not_true, Bool.not_false, xI_eq, xB_eq, xS_eq, xP_eq, xL_eq, x0_eq, x2_eq, x3_eq, chk_eq, true_and, and_true, List.set_cons_zero, List.set_cons_succ, List.eraseIdx_cons_zero, List.eraseIdx_cons_succ]
        rw [c4, decide_eq_true hgr]
        exact hK _ hs.drop.drop
      have eab : strEq (bs a.data.toList) a = true := by rw [strEq_iff]; exact decide_eq_true rfl
      rw [eab]
      simp only [nn_some, add_mk, Nat.zero_add, Nat.add_zero, Nat.reduceAdd, Nat.reduceMul, Option.isNone_some, Option.isNone_none, br_true, br_false, Bool.not_true, Bool.not_false, xI_eq, xB_eq, xS_eq, xP_eq, xL_eq, x0_eq, x2_eq, x3_eq, chk_eq, true_and, and_true, List.set_cons_zero, List.set_cons_succ, List.eraseIdx_cons_zero, List.eraseIdx_cons_succ]
      rw [beq_self_eq_true, br_true]
      cases ok with
      | true =>
        have ebb : strEq t b = true := by rw [strEq_iff, h2 rfl]; exact decide_eq_true rfl
        rw [ebb]
        simp only [nn_some, add_mk, Nat.zero_add, Nat.add_zero, Nat.reduceAdd, Nat.reduceMul, Option.isNone_some, Option.isNone_none, br_true, br_false, Bool.not_true, Bool.not_false, xI_eq, xB_eq, xS_eq, xP_eq, xL_eq, x0_eq, x2_eq, x3_eq, chk_eq, true_and, and_true, List.set_cons_zero, List.set_cons_succ, List.eraseIdx_cons_zero, List.eraseIdx_cons_succ]
        refine br_ne (fun _ => fin _ hs2) (fun _ => fin _ hs2)
      | false =>
        simp only [nn_some, add_mk, Nat.zero_add, Nat.add_zero, Nat.reduceAdd, Nat.reduceMul, Option.isNone_some, Option.isNone_none, br_true, br_false, Bool.not_true, Bool.not_false, xI_eq, xB_eq, xS_eq, xP_eq, xL_eq, x0_eq, x2_eq, x3_eq, chk_eq, true_and, and_true, List.set_cons_zero, List.set_cons_succ, List.eraseIdx_cons_zero, List.eraseIdx_cons_succ]
        refine br_ne (fun _ => fin _ hs2) (fun h0 => ?_)
        exfalso
        have hno := (of_decide_eq_false h1.symm)
        exact hno (c2 h0)
  refine br_dec (fun h1 => go _ (fun hf => by cases hf)) (fun h1 => ?_)
  refine br_dec (fun h2 => go _ (fun hf => by cases hf)) (fun h2 => ?_)
  refine br_dec (fun h3 => go _ (fun hf => by cases hf)) (fun h3 => ?_)
  exact go _ (fun hf => ⟨by omega, by omega⟩)

theorem SlotCrash_ok {a0 a3 a4 a5 a6 : Int} {a1 a2 : ByteArray} (_ : (Lit.int .i64 a0).wf = true) (w1 : a1.size ≤ reachBytes) (w2 : a2.size ≤ reachBytes) (_ : (Lit.int .i64 a3).wf = true) (_ : (Lit.int .u64 a4).wf = true) (_ : (Lit.int .i64 a5).wf = true) (_ : (Lit.int .i64 a6).wf = true) :
    bondstorelaw07_SlotCrash.u [.int .i64 a0, .string a1, .string a2, .int .i64 a3, .int .u64 a4, .int .i64 a5, .int .i64 a6] (fun v w' => v = .bool true ∧ Below W.heap.size W w') W := by
  unfold bondstorelaw07_SlotCrash.u
  exact SlotCrash_spec (K := fun v w' => v = .bool true ∧ Below W.heap.size W w') (St.start W) w1 w2 (fun w' h => ⟨rfl, h.below⟩)
end
end Go.Sep
