/- Layer 7: what is put is there; the law SlotOver. -/
import Derived.Test.YtidhimamegfdaaaDoorSl0
namespace Go.Sep
open Go.Den Go.RowKit Go.Prog Go.Plat
set_option linter.unusedSimpArgs false
set_option linter.unusedVariables false

/-- A disk that isn't armed, of 'n' sectors. -/
structure Calm (n : Nat) (D : Disk) : Prop where
  ok : D.Ok
  arm : D.arm = 0
  later : D.later.length ≤ 1000
  len : D.safe.length = n

theorem calm_new {n : Nat} (h : n ≤ 4096) : Calm n (Disk.new n) := by
  refine ⟨new_ok n, rfl, Nat.zero_le _, ?_⟩
  simp only [Disk.new, List.length_replicate]
  have : min2 (max2 (n : Int) 0) 4096 = n := by unfold min2 max2; split <;> split <;> omega
  rw [this]; omega

theorem new_read {n : Nat} (h : n ≤ 4096) {j : Nat} (hj : j < n) : ((Disk.new n).read (j : Int)).1 = zeros 128 := by
  have hc := calm_new h
  rw [read_safe (D := Disk.new n) rfl (i := j) (by rw [hc.len]; exact hj)]
  simp [Disk.new]

theorem put_long {n : Nat} {D : Disk} {which number : Int} {s : ByteArray} (h : Calm n D) (h12 : 12 ≤ n) (hnum : 1 ≤ number ∧ number ≤ 1152921504606846976) (hl : pSize n < cnt s.size) : put D n which number s = (D, 3) := by
  have hin := slotAt_in h12 which
  have e : lay D (slotAt n which) ((slotAt n which + pSize n : Nat) : Int) number s = (D, 3) := by
    unfold lay
    rw [if_neg (by rw [h.len]; omega), if_pos (by omega)]
  unfold put
  rw [e, if_pos (by simp)]

theorem put_fits {n : Nat} {D : Disk} {which number : Int} {s : ByteArray} (h : Calm n D) (h12 : 12 ≤ n) (h4096 : n ≤ 4096) (hnum : 1 ≤ number ∧ number ≤ 1152921504606846976) (hl : cnt s.size ≤ pSize n) :
    (put D n which number s).2 = 0 ∧ Calm n (put D n which number s).1 ∧ (∀ q : Nat, q < cnt s.size → ((put D n which number s).1.read (((slotAt n which : Nat) : Int) + q)).1 = leaf number q (part s q)) ∧
    ∀ j : Nat, j < n → (j < slotAt n which ∨ slotAt n which + pSize n ≤ j) → ((put D n which number s).1.read (j : Int)).1 = (D.read (j : Int)).1 := by
  have hin := slotAt_in h12 which
  have e : lay D (slotAt n which) ((slotAt n which + pSize n : Nat) : Int) number s = layF (slotAt n which) number s D 0 (cnt s.size) := by
    unfold lay
    rw [if_neg (by rw [h.len]; omega), if_neg (by omega)]
  have hl0 := layF0 (at' := ((slotAt n which : Nat) : Int)) (number := number) (s := s) hnum (by omega) (cnt s.size) 0 (D := D) h.arm (by rw [h.len]; omega) (by omega)
  have hli := layF_in (at' := ((slotAt n which : Nat) : Int)) (number := number) (s := s) hnum (by omega) (cnt s.size) 0 (D := D) h.arm (by rw [h.len]; omega) (by omega)
  have hok := layF_ok (at' := ((slotAt n which : Nat) : Int)) (number := number) (s := s) (cnt s.size) 0 h.ok (by have := h.later; omega)
  unfold put
  rw [e]
  obtain ⟨l1, l2, l3, l4, l5⟩ := hl0
  rw [if_neg (fun hh => hh l1)]
  generalize (layF ((slotAt n which : Nat) : Int) number s D 0 (cnt s.size)).1 = D1 at *
  have hlen1 : D1.safe.length = n := by rw [l3]; exact h.len
  have hs0 := Dk.sync0 l2
  have hcalm : Calm n D1.sync.1 := ⟨sync_ok hok.1, Dk.sync0_arm l2, by rw [hs0]; exact Nat.zero_le _, by rw [Dk.sync_len.1]; exact hlen1⟩
  have hrd : ∀ j : Nat, j < n → (D1.sync.1.read (j : Int)).1 = D1.now (j : Int) := fun j hj => by
    have h1 : D1.sync.1.is (j : Int) := ⟨by omega, by rw [hcalm.len]; omega⟩
    have h2 : D1.is (j : Int) := ⟨by omega, by rw [hlen1]; omega⟩
    unfold Disk.read
    rw [if_pos h1]
    exact Dk.now_sync0 l2 hok.1 h2
  refine ⟨by rw [hs0], hcalm, fun q hq => ?_, fun j hj hj2 => ?_⟩
  · have := hrd (slotAt n which + q) (by omega)
    rw [show (((slotAt n which : Nat) : Int) + (q : Int)) = ((slotAt n which + q : Nat) : Int) from by omega, this, show ((slotAt n which + q : Nat) : Int) = ((slotAt n which : Nat) : Int) + (q : Int) from by omega]
    exact hli q (Nat.zero_le _) (by omega)
  · rw [hrd j hj, l5 (j : Int) (by omega)]
    have h2 : D.is (j : Int) := ⟨by omega, by rw [h.len]; omega⟩
    unfold Disk.read
    rw [if_pos h2]

/-- What lies in a slot is told. -/
theorem get_all {n : Nat} {D : Disk} {which number : Int} {s : ByteArray} (hlen : D.safe.length = n) (h12 : 12 ≤ n) (h4096 : n ≤ 4096) (hnum : 1 ≤ number ∧ number ≤ 1152921504606846976) (hl : cnt s.size ≤ pSize n)
    (hr : ∀ q : Nat, q < cnt s.size → (D.read (((slotAt n which : Nat) : Int) + q)).1 = leaf number q (part s q)) : get D n which number s.size = some s.data.toList := by
  have hin := slotAt_in h12 which
  have hb : s.size ≤ 104 * cnt s.size := by unfold cnt; split <;> omega
  have hps : ∀ q : Nat, (part s q).size = min (104 * (q + 1)) s.size - 104 * q := fun q => by unfold part; rw [strEx]
  unfold get take
  rw [if_neg (by rw [hlen, Int.toNat_natCast]; omega), Int.toNat_natCast, takeF_all (s := s) (cnt s.size) 0 (fun q _ hq => by
    rw [hr q (by omega)]
    have hg : Good number q (part s q) := ⟨hnum.1, hnum.2, by omega, by omega, part_size s q⟩
    unfold leaf
    rw [if_pos hg]
    exact ⟨readV_leaf hg, by rw [hps]; omega⟩)]
  congr 1
  rw [Nat.mul_zero, List.drop_zero, List.take_of_length_le (by rw [toList_length]; exact hb)]

/-- What another number bears isn't. -/
theorem get_other {n : Nat} {D : Disk} {which number size : Int} (h : ∀ m j d, readV (D.read (((slotAt n which : Nat) : Int) + ((0 : Nat) : Int))).1.data.toList = some (m, j, d) → m ≠ number) : get D n which number size = none := by
  unfold get take
  split
  · rfl
  · have := cnt_pos size.toNat
    exact takeF_none _ 0 0 (Nat.le_refl _) (by omega) fun m j d hv hh => h m j d hv hh.1

section
variable {W w : World} {L : List HP}

theorem alive7_spec {K : VK} (h : St W w L) (hK : ∀ w', St W w' L → K (.bool true) w') : bondstorelaw07_alive K w := by
  unfold bondstorelaw07_alive
  refine Of_spec (n := 12) h (by decide) (by decide) fun w h => ?_
  simp only [nn_some, add_mk, Nat.zero_add, Nat.add_zero, Nat.reduceAdd, Nat.reduceMul, Option.isNone_some, Option.isNone_none, br_true, br_false, Bool.not_true, Bool.not_false, xI_eq, xB_eq, xS_eq, xP_eq, xL_eq, x0_eq, x2_eq, x3_eq, chk_eq, true_and, and_true, List.set_cons_zero, List.set_cons_succ, List.eraseIdx_cons_zero, List.eraseIdx_cons_succ]
  simp only [xA_eq]
  refine ⟨rfl, ?_⟩
  simp only [nn_some, add_mk, Nat.zero_add, Nat.add_zero, Nat.reduceAdd, Nat.reduceMul, Option.isNone_some, Option.isNone_none, br_true, br_false, Bool.not_true, Bool.not_false, xI_eq, xB_eq, xS_eq, xP_eq, xL_eq, x0_eq, x2_eq, x3_eq, chk_eq, true_and, and_true, List.set_cons_zero, List.set_cons_succ, List.eraseIdx_cons_zero, List.eraseIdx_cons_succ]
  refine mk_of h fun r w hs => ?_
  refine ⟨rfl, stN_pt (k := 0) hs rfl (Nat.le_of_ble_eq_true rfl) (by simp [Value.oneCell', planCells]) fun w hs => ?_⟩
  rw [over_all (by simp [planCells])] at hs
  simp only [nn_some, add_mk, Nat.zero_add, Nat.add_zero, Nat.reduceAdd, Nat.reduceMul, Option.isNone_some, Option.isNone_none, br_true, br_false, Bool.not_true, Bool.not_false, xI_eq, xB_eq, xS_eq, xP_eq, xL_eq, x0_eq, x2_eq, x3_eq, chk_eq, true_and, and_true, List.set_cons_zero, List.set_cons_succ, List.eraseIdx_cons_zero, List.eraseIdx_cons_succ] at hs
  refine New_spec hs fun d w hs => ?_
  simp only [nn_some, add_mk, Nat.zero_add, Nat.add_zero, Nat.reduceAdd, Nat.reduceMul, Option.isNone_some, Option.isNone_none, br_true, br_false, Bool.not_true, Bool.not_false, xI_eq, xB_eq, xS_eq, xP_eq, xL_eq, x0_eq, x2_eq, x3_eq, chk_eq, true_and, and_true, List.set_cons_zero, List.set_cons_succ, List.eraseIdx_cons_zero, List.eraseIdx_cons_succ]
  refine ldN_pt (k := 1) (xs := planCells 12) hs rfl rfl (fun j v hj => by rw [Nat.zero_add]; exact hj) ?_
  have hc := calm_new (n := 12) (by decide)
  have hp := put_fits (which := 0) (number := 1) (s := ⟨#[97]⟩) hc (by decide) (by decide) (by decide) (by decide)
  refine Put_spec (n := 12) (k := 0) hs rfl hc.ok (by decide) (by decide) (by decide +kernel) (by decide) fun w hs => ?_
  simp only [nn_some, add_mk, Nat.zero_add, Nat.add_zero, Nat.reduceAdd, Nat.reduceMul, Option.isNone_some, Option.isNone_none, br_true, br_false, Bool.not_true, Bool.not_false, xI_eq, xB_eq, xS_eq, xP_eq, xL_eq, x0_eq, x2_eq, x3_eq, chk_eq, true_and, and_true, List.set_cons_zero, List.set_cons_succ, List.eraseIdx_cons_zero, List.eraseIdx_cons_succ] at hs ⊢
  refine ldN_pt (k := 1) (xs := planCells 12) hs rfl rfl (fun j v hj => by rw [Nat.zero_add]; exact hj) ?_
  refine Get_spec (n := 12) (k := 0) hs rfl hp.2.1.ok (by decide) (by decide) fun w hs => ?_
  have hg := get_all (which := 0) (number := 1) (s := ⟨#[97]⟩) hp.2.1.len (by decide) (by decide) (by decide) (by decide) hp.2.2.1
  have hg' : get (put (Disk.new 12) 12 0 1 ⟨#[97]⟩).1 12 0 1 1 = some (⟨#[97]⟩ : ByteArray).data.toList := hg
  rw [hg']
  unfold takeRes
  simp only [nn_some, add_mk, Nat.zero_add, Nat.add_zero, Nat.reduceAdd, Nat.reduceMul, Option.isNone_some, Option.isNone_none, br_true, br_false, Bool.not_true, Bool.not_false, xI_eq, xB_eq, xS_eq, xP_eq, xL_eq, x0_eq, x2_eq, x3_eq, chk_eq, true_and, and_true, List.set_cons_zero, List.set_cons_succ, List.eraseIdx_cons_zero, List.eraseIdx_cons_succ]
  rw [beq_self_eq_true, br_true]
  refine ldN_pt (k := 1) (xs := planCells 12) hs rfl rfl (fun j v hj => by rw [Nat.zero_add]; exact hj) ?_
  refine ⟨by decide, ⟨⟨rfl, rfl⟩, ?_⟩⟩
  have e1 : eqCells (planCells 12) [.int .i64 2, .int .i64 6, .int .i64 4, .int .i64 10, .int .i64 12] = true := by decide
  rw [e1]
  dsimp only
  rw [br_true]
  have e2 : ((put (Disk.new 12) 12 0 1 ⟨#[97]⟩).2 == 0) = true := by
    have := hp.1
    simp only [beq_iff_eq]; exact this
  have e3 : strEq (bs [97]) ⟨#[97]⟩ = true := by rw [strEq_iff]; exact decide_eq_true rfl
  rw [e2, br_true, e3]
  exact hK w hs.drop.drop

theorem Over_spec {n which : Int} {a b : ByteArray} {K : VK} (h : St W w L) (ha : a.size ≤ reachBytes) (hb : b.size ≤ reachBytes) (hK : ∀ w', St W w' L → K (.bool true) w') : bondstorelaw07_SlotOver n a b which K w := by
  have ha' : a.size ≤ 140737488351232 := ha
  have hb' : b.size ≤ 140737488351232 := hb
  unfold bondstorelaw07_SlotOver
  refine alive7_spec h fun w h => ?_
  simp only [nn_some, add_mk, Nat.zero_add, Nat.add_zero, Nat.reduceAdd, Nat.reduceMul, Option.isNone_some, Option.isNone_none, br_true, br_false, Bool.not_true, Bool.not_false, xI_eq, xB_eq, xS_eq, xP_eq, xL_eq, x0_eq, x2_eq, x3_eq, chk_eq, true_and, and_true, List.set_cons_zero, List.set_cons_succ, List.eraseIdx_cons_zero, List.eraseIdx_cons_succ]
  have go : ∀ c, (c = false → 12 ≤ n ∧ n ≤ 60) → bondstorelaw07_SlotOver.j1 K n which a b c w := fun c hc => by
    unfold bondstorelaw07_SlotOver.j1
    refine br_of (fun _ => hK w h) (fun hf => ?_)
    obtain ⟨h12, h60⟩ := hc hf
    obtain ⟨m, rfl⟩ := Int.eq_ofNat_of_zero_le (show 0 ≤ n by omega)
    have m12 : 12 ≤ m := by omega
    have m4096 : m ≤ 4096 := by omega
    refine Of_spec (n := m) h m12 m4096 fun w h => ?_
    simp only [nn_some, add_mk, Nat.zero_add, Nat.add_zero, Nat.reduceAdd, Nat.reduceMul, Option.isNone_some, Option.isNone_none, br_true, br_false, Bool.not_true, Bool.not_false, xI_eq, xB_eq, xS_eq, xP_eq, xL_eq, x0_eq, x2_eq, x3_eq, chk_eq, true_and, and_true, List.set_cons_zero, List.set_cons_succ, List.eraseIdx_cons_zero, List.eraseIdx_cons_succ]
    simp only [xA_eq]
    refine ⟨rfl, ?_⟩
    simp only [nn_some, add_mk, Nat.zero_add, Nat.add_zero, Nat.reduceAdd, Nat.reduceMul, Option.isNone_some, Option.isNone_none, br_true, br_false, Bool.not_true, Bool.not_false, xI_eq, xB_eq, xS_eq, xP_eq, xL_eq, x0_eq, x2_eq, x3_eq, chk_eq, true_and, and_true, List.set_cons_zero, List.set_cons_succ, List.eraseIdx_cons_zero, List.eraseIdx_cons_succ]
    refine mk_of h fun r w hs => ?_
    refine ⟨rfl, stN_pt (k := 0) hs rfl (Nat.le_of_ble_eq_true rfl) (by simp [Value.oneCell', planCells]) fun w hs => ?_⟩
    rw [over_all (by simp [planCells])] at hs
    simp only [nn_some, add_mk, Nat.zero_add, Nat.add_zero, Nat.reduceAdd, Nat.reduceMul, Option.isNone_some, Option.isNone_none, br_true, br_false, Bool.not_true, Bool.not_false, xI_eq, xB_eq, xS_eq, xP_eq, xL_eq, x0_eq, x2_eq, x3_eq, chk_eq, true_and, and_true, List.set_cons_zero, List.set_cons_succ, List.eraseIdx_cons_zero, List.eraseIdx_cons_succ] at hs
    refine New_spec hs fun d w hs => ?_
    simp only [nn_some, add_mk, Nat.zero_add, Nat.add_zero, Nat.reduceAdd, Nat.reduceMul, Option.isNone_some, Option.isNone_none, br_true, br_false, Bool.not_true, Bool.not_false, xI_eq, xB_eq, xS_eq, xP_eq, xL_eq, x0_eq, x2_eq, x3_eq, chk_eq, true_and, and_true, List.set_cons_zero, List.set_cons_succ, List.eraseIdx_cons_zero, List.eraseIdx_cons_succ]
    have hcm := calm_new m4096
    refine ldN_pt (k := 1) (xs := planCells m) hs rfl rfl (fun j v hj => by rw [Nat.zero_add]; exact hj) ?_
    refine Put_spec (n := m) (k := 0) hs rfl hcm.ok m12 m4096 (by have := hcm.later; omega) ha fun w hs => ?_
    simp only [nn_some, add_mk, Nat.zero_add, Nat.add_zero, Nat.reduceAdd, Nat.reduceMul, Option.isNone_some, Option.isNone_none, br_true, br_false, Bool.not_true, Bool.not_false, xI_eq, xB_eq, xS_eq, xP_eq, xL_eq, x0_eq, x2_eq, x3_eq, chk_eq, true_and, and_true, List.set_cons_zero, List.set_cons_succ, List.eraseIdx_cons_zero, List.eraseIdx_cons_succ] at hs ⊢
    by_cases hfa : cnt a.size ≤ pSize m
    · obtain ⟨p1, p2, p3, p4⟩ := put_fits (which := which) (number := 1) hcm m12 m4096 (by decide) hfa
      rw [p1]
      generalize (put (Disk.new m) m which 1 a).1 = D1 at *
      refine br_ne (fun hh => absurd rfl hh) (fun _ => ?_)
      refine ldN_pt (k := 1) (xs := planCells m) hs rfl rfl (fun j v hj => by rw [Nat.zero_add]; exact hj) ?_
      refine Put_spec (n := m) (k := 0) hs rfl p2.ok m12 m4096 (by have := p2.later; omega) hb fun w hs => ?_
      simp only [nn_some, add_mk, Nat.zero_add, Nat.add_zero, Nat.reduceAdd, Nat.reduceMul, Option.isNone_some, Option.isNone_none, br_true, br_false, Bool.not_true, Bool.not_false, xI_eq, xB_eq, xS_eq, xP_eq, xL_eq, x0_eq, x2_eq, x3_eq, chk_eq, true_and, and_true, List.set_cons_zero, List.set_cons_succ, List.eraseIdx_cons_zero, List.eraseIdx_cons_succ] at hs ⊢
      by_cases hfb : cnt b.size ≤ pSize m
      · obtain ⟨q1, q2, q3, q4⟩ := put_fits (which := which) (number := 2) p2 m12 m4096 (by decide) hfb
        rw [q1]
        generalize (put D1 m which 2 b).1 = D2 at *
        have hin := slotAt_in m12 which
        have hin2 := slotAt_in m12 (isum .i64 .xor which 1)
        have g2 := get_all (which := which) (number := 2) (s := b) q2.len m12 m4096 (by decide) hfb q3
        have g1 : get D2 m which 1 (a.size : Int) = none := get_other fun x j dd hv => by
          have hpos := cnt_pos b.size
          rw [q3 0 (by omega)] at hv
          have hg : Good 2 ((0 : Nat) : Int) (part b 0) := ⟨by decide, by decide, by decide, by decide, part_size b 0⟩
          unfold leaf at hv
          rw [if_pos hg] at hv
          have := (readV_leaf hg).symm.trans hv
          cases this
          decide
        have g3 : get D2 m (isum .i64 .xor which 1) 2 (b.size : Int) = none := get_other fun x j dd hv => by
          have hap := slot_apart (n := m) (isum .i64 .xor which 1) which (by rw [low_flip]; have := low_in which; omega)
          have e : ((slotAt m (isum .i64 .xor which 1) : Nat) : Int) + ((0 : Nat) : Int) = ((slotAt m (isum .i64 .xor which 1) : Nat) : Int) := by omega
          rw [e, q4 _ (by omega) (by omega), p4 _ (by omega) (by omega), new_read m4096 (by omega), readV_zeros] at hv
          cases hv
        unfold bondstorelaw07_SlotOver.j2
        have ef : ((0 : Int) != 0) = false := rfl
        rw [ef, br_false]
        refine ldN_pt (k := 1) (xs := planCells m) hs rfl rfl (fun j v hj => by rw [Nat.zero_add]; exact hj) ?_
        refine Get_spec (n := m) (k := 0) hs rfl q2.ok m12 m4096 fun w hs => ?_
        rw [g1]
        unfold takeRes
        simp only [nn_some, add_mk, Nat.zero_add, Nat.add_zero, Nat.reduceAdd, Nat.reduceMul, Option.isNone_some, Option.isNone_none, br_true, br_false, Bool.not_true, Bool.not_false, xI_eq, xB_eq, xS_eq, xP_eq, xL_eq, x0_eq, x2_eq, x3_eq, chk_eq, true_and, and_true, List.set_cons_zero, List.set_cons_succ, List.eraseIdx_cons_zero, List.eraseIdx_cons_succ]
        refine ldN_pt (k := 1) (xs := planCells m) hs rfl rfl (fun j v hj => by rw [Nat.zero_add]; exact hj) ?_
        refine Get_spec (n := m) (k := 0) hs rfl q2.ok m12 m4096 fun w hs => ?_
        rw [g2]
        unfold takeRes
        simp only [nn_some, add_mk, Nat.zero_add, Nat.add_zero, Nat.reduceAdd, Nat.reduceMul, Option.isNone_some, Option.isNone_none, br_true, br_false, Bool.not_true, Bool.not_false, xI_eq, xB_eq, xS_eq, xP_eq, xL_eq, x0_eq, x2_eq, x3_eq, chk_eq, true_and, and_true, List.set_cons_zero, List.set_cons_succ, List.eraseIdx_cons_zero, List.eraseIdx_cons_succ]
        refine ldN_pt (k := 1) (xs := planCells m) hs rfl rfl (fun j v hj => by rw [Nat.zero_add]; exact hj) ?_
        refine Get_spec (n := m) (k := 0) hs rfl q2.ok m12 m4096 fun w hs => ?_
        rw [g3]
        unfold takeRes
        simp only [nn_some, add_mk, Nat.zero_add, Nat.add_zero, Nat.reduceAdd, Nat.reduceMul, Option.isNone_some, Option.isNone_none, br_true, br_false, Bool.not_true, Bool.not_false, xI_eq, xB_eq, xS_eq, xP_eq, xL_eq, x0_eq, x2_eq, x3_eq, chk_eq, true_and, and_true, List.set_cons_zero, List.set_cons_succ, List.eraseIdx_cons_zero, List.eraseIdx_cons_succ]
        rw [bs_data, strEq_iff, decide_eq_true rfl]
        exact hK w hs.drop.drop
      · have e := put_long (which := which) (number := 2) (s := b) p2 m12 (by decide) (by omega)
        rw [e] at hs ⊢
        unfold bondstorelaw07_SlotOver.j2
        have ef : ((3 : Int) != 0) = true := rfl
        rw [ef, br_true]
        exact hK w hs.drop.drop
    · have e := put_long (which := which) (number := 1) (s := a) hcm m12 (by decide) (by omega)
      rw [e] at hs ⊢
      refine br_ne (fun _ => ?_) (fun hh => by simp at hh)
      unfold bondstorelaw07_SlotOver.j2
      rw [br_true]
      exact hK w hs.drop.drop
  refine br_dec (fun h1 => go _ (fun hf => by cases hf)) (fun h1 => ?_)
  refine br_dec (fun h2 => go _ (fun hf => by cases hf)) (fun h2 => ?_)
  exact go _ (fun _ => ⟨by omega, by omega⟩)

theorem Over_ok {a0 a3 : Int} {a1 a2 : ByteArray} (_ : (Lit.int .i64 a0).wf = true) (w1 : a1.size ≤ reachBytes) (w2 : a2.size ≤ reachBytes) (_ : (Lit.int .i64 a3).wf = true) :
    bondstorelaw07_SlotOver.u [.int .i64 a0, .string a1, .string a2, .int .i64 a3] (fun v w' => v = .bool true ∧ Below W.heap.size W w') W := by
  unfold bondstorelaw07_SlotOver.u
  exact Over_spec (K := fun v w' => v = .bool true ∧ Below W.heap.size W w') (St.start W) w1 w2 (fun w' h => ⟨rfl, h.below⟩)
end
end Go.Sep
