/- The law StampLays. -/
import Derived.Test.YtidhimamegfdaaaDoorSt7
namespace Go.Sep
open Go.Den Go.RowKit Go.Prog Go.Plat
set_option linter.unusedSimpArgs false
set_option linter.unusedVariables false

/-- What is taken of what was laid on an empty disk of twelve sectors. -/
theorem take_laid {at' to number other size : Int} {s : ByteArray} (hnum : 1 ≤ number ∧ number ≤ 1152921504606846976) (h0 : 0 ≤ at') (h1 : at' ≤ to) (h12 : to ≤ 12) (hroom : (cnt s.size : Int) ≤ to - at') :
    take (layF at' number s (Disk.new 12) 0 (cnt s.size)).1 at' to other size =
      if other = number ∧ (size = s.size ∨ 0 < size ∧ size < s.size ∧ size.tmod 104 = 0) then some (s.data.toList.take size.toNat) else none := by
  have hlen : (Disk.new 12).safe.length = 12 := rfl
  have hl0 := layF0 (at' := at') (number := number) (s := s) hnum h0 (cnt s.size) 0 (D := Disk.new 12) rfl (by rw [hlen]; omega) (by omega)
  have hli := layF_in (at' := at') (number := number) (s := s) hnum h0 (cnt s.size) 0 (D := Disk.new 12) rfl (by rw [hlen]; omega) (by omega)
  generalize (layF at' number s (Disk.new 12) 0 (cnt s.size)).1 = D at *
  obtain ⟨_, _, hsafe, _, hout⟩ := hl0
  have hDl : D.safe.length = 12 := by rw [hsafe, hlen]
  have hin : ∀ q : Nat, q < cnt s.size → readV (D.read (at' + q)).1.data.toList = some (number, (q : Int), part s q) := fun q hq => by
    have hi : D.is (at' + q) := ⟨by omega, by omega⟩
    have hg : Good number q (part s q) := ⟨hnum.1, hnum.2, by omega, by omega, part_size s q⟩
    unfold Disk.read
    rw [if_pos hi, hli q (Nat.zero_le _) (by omega)]
    unfold leaf
    rw [if_pos hg]
    exact readV_leaf hg
  have hblank : ∀ q : Nat, cnt s.size ≤ q → at' + q < 12 → readV (D.read (at' + q)).1.data.toList = none := fun q hq hq2 => by
    have hi : D.is (at' + q) := ⟨by omega, by omega⟩
    unfold Disk.read
    rw [if_pos hi, hout (at' + q) (by omega)]
    have : (Disk.new 12).now (at' + (q : Int)) = zeros 128 := by
      unfold Disk.now
      have e : Disk.last (Disk.new 12).later (at' + (q : Int)) = none := rfl
      rw [e, Option.getD_none, List.getD_eq_getElem?_getD]
      have e2 : (Disk.new 12).safe = List.replicate 12 (zeros 128) := rfl
      rw [e2, List.getElem?_replicate, if_pos (by omega)]; rfl
    rw [this]
    exact readV_zeros
  have hpart : ∀ q : Nat, (part s q).size = min (104 * (q + 1)) s.size - 104 * q := fun q => by unfold part; rw [strEx]
  unfold take
  by_cases hbad : at' < 0 ∨ (D.safe.length : Int) < to ∨ to < at' ∨ size < 0 ∨ 425984 < size ∨ to - at' < (cnt size.toNat : Int)
  · rw [if_pos hbad, if_neg]
    rintro ⟨_, hs⟩
    have hcm : ∀ a b : Nat, a ≤ b → cnt a ≤ cnt b := fun a b hab => by unfold cnt; split <;> split <;> omega
    have hsz : size ≤ s.size := by omega
    have hs0 : 0 ≤ size := by omega
    have hc := hcm size.toNat s.size (by omega)
    have hcb : s.size ≤ 104 * cnt s.size := by unfold cnt; split <;> omega
    omega
  · rw [if_neg hbad]
    have hs0 : 0 ≤ size := by omega
    obtain ⟨m, rfl⟩ := Int.eq_ofNat_of_zero_le hs0
    rw [Int.toNat_natCast] at hbad ⊢
    have hc0 := cnt_pos m
    have hcs := cnt_pos s.size
    have hm1 : 104 * (cnt m - 1) ≤ m ∧ m ≤ 104 * cnt m := by unfold cnt; split <;> omega
    have hm2 : m ≠ 0 → 104 * (cnt m - 1) < m := by intro h; unfold cnt; rw [if_neg h]; omega
    have hs1 : 104 * (cnt s.size - 1) ≤ s.size ∧ s.size ≤ 104 * cnt s.size := by unfold cnt; split <;> omega
    have hs2 : s.size ≠ 0 → 104 * (cnt s.size - 1) < s.size := by intro h; unfold cnt; rw [if_neg h]; omega
    have hmod : (m : Int).tmod 104 = ((m % 104 : Nat) : Int) := by rw [Int.tmod_eq_emod_of_nonneg (by omega)]; rfl
    rw [hmod]
    by_cases hon : other = number
    · subst hon
      by_cases hgood : (m : Int) = s.size ∨ 0 < (m : Int) ∧ (m : Int) < s.size ∧ ((m % 104 : Nat) : Int) = 0
      · rw [if_pos ⟨rfl, hgood⟩]
        have hle : cnt m ≤ cnt s.size := by unfold cnt; split <;> split <;> omega
        rw [takeF_all (s := s) (cnt m) 0 (fun q _ hq => ⟨hin q (by omega), by
          rw [hpart q]
          rcases hgood with h | ⟨h2, h3, h4⟩
          · omega
          · have : m ≠ 0 := by omega
            have := hm2 this
            omega⟩)]
        congr 1
        rw [Nat.mul_zero, List.drop_zero, List.take_eq_take_iff, toList_length]
        rcases hgood with h | ⟨h2, h3, h4⟩
        · omega
        · have hmm : m = 104 * cnt m := by omega
          omega
      · rw [if_neg (fun hh => hgood hh.2)]
        by_cases hcm : cnt s.size < cnt m
        · refine takeF_none (cnt m) 0 (cnt s.size) (Nat.zero_le _) (by omega) fun a j d hv => ?_
          rw [hblank (cnt s.size) (Nat.le_refl _) (by omega)] at hv
          cases hv
        · refine takeF_none (cnt m) 0 (cnt m - 1) (Nat.zero_le _) (by omega) fun a j d hv => ?_
          rw [hin (cnt m - 1) (by omega)] at hv
          cases hv
          rintro ⟨_, _, hsz⟩
          rw [hpart] at hsz
          apply hgood
          have hcc : cnt m - 1 + 1 = cnt m := by omega
          rw [hcc] at hsz
          by_cases hm0 : m = 0
          · subst hm0
            have : cnt 0 = 1 := rfl
            rw [this] at hsz
            left; omega
          · have := hm2 hm0
            by_cases hms : m = s.size
            · left; omega
            · right; omega
    · rw [if_neg (fun hh => hon hh.1)]
      refine takeF_none (cnt m) 0 0 (Nat.le_refl _) (by omega) fun a j d hv => ?_
      rw [hin 0 (by omega)] at hv
      cases hv
      rintro ⟨h1, _⟩
      exact hon h1.symm

section
variable {W w : World} {L : List HP}

theorem Lays_spec {at' to number other size : Int} {s : ByteArray} {K : VK} (h : St W w L) (hs : s.size ≤ reachBytes) (hat : (Lit.int .i64 at').wf = true) (hto : (Lit.int .i64 to).wf = true) (hK : ∀ w', St W w' L → K (.bool true) w') :
    bondstorelaw05_StampLays at' to number s other size K w := by
  unfold bondstorelaw05_StampLays
  refine alive5_spec h fun w h => ?_
  simp only [nn_some, add_mk, Nat.zero_add, Nat.add_zero, Nat.reduceAdd, Nat.reduceMul, Option.isNone_some, Option.isNone_none, br_true, br_false, Bool.not_true, Bool.not_false, xI_eq, xB_eq, xS_eq, xP_eq, xL_eq, x0_eq, x2_eq, x3_eq, chk_eq, true_and, and_true, List.set_cons_zero, List.set_cons_succ, List.eraseIdx_cons_zero, List.eraseIdx_cons_succ]
  refine br_dec (fun _ => hK w h) (fun h2000 => ?_)
  refine New_spec h fun d w h => ?_
  simp only [nn_some, add_mk, Nat.zero_add, Nat.add_zero, Nat.reduceAdd, Nat.reduceMul, Option.isNone_some, Option.isNone_none, br_true, br_false, Bool.not_true, Bool.not_false, xI_eq, xB_eq, xS_eq, xP_eq, xL_eq, x0_eq, x2_eq, x3_eq, chk_eq, true_and, and_true, List.set_cons_zero, List.set_cons_succ, List.eraseIdx_cons_zero, List.eraseIdx_cons_succ]
  have hok0 : (Disk.new 12).Ok := new_ok 12
  have hlen : (Disk.new 12).safe.length = 12 := rfl
  refine Lay_spec (k := 0) h rfl hok0 (by decide +kernel) hs fun w h => ?_
  simp only [nn_some, add_mk, Nat.zero_add, Nat.add_zero, Nat.reduceAdd, Nat.reduceMul, Option.isNone_some, Option.isNone_none, br_true, br_false, Bool.not_true, Bool.not_false, xI_eq, xB_eq, xS_eq, xP_eq, xL_eq, x0_eq, x2_eq, x3_eq, chk_eq, true_and, and_true, List.set_cons_zero, List.set_cons_succ, List.eraseIdx_cons_zero, List.eraseIdx_cons_succ] at h ⊢
  have hcs : cnt s.size ≤ 21 := by unfold cnt; split <;> omega
  have hlo := lay_ok (at' := at') (to := to) (number := number) (s := s) hok0 (by show 0 + cnt s.size < _; omega)
  have go : ∀ b, b = decide (1 ≤ number ∧ number ≤ 1152921504606846976 ∧ 0 ≤ at' ∧ to ≤ 12 ∧ at' ≤ to) → bondstorelaw05_StampLays.j1 K s (lay (Disk.new 12) at' to number s).2 (some ⟨d, 0, none⟩) to at' number other size b w := fun b hb => by
    unfold bondstorelaw05_StampLays.j1
    refine rCount_spec (by omega) ?_
    simp only [nn_some, add_mk, Nat.zero_add, Nat.add_zero, Nat.reduceAdd, Nat.reduceMul, Option.isNone_some, Option.isNone_none, br_true, br_false, Bool.not_true, Bool.not_false, xI_eq, xB_eq, xS_eq, xP_eq, xL_eq, x0_eq, x2_eq, x3_eq, chk_eq, true_and, and_true, List.set_cons_zero, List.set_cons_succ, List.eraseIdx_cons_zero, List.eraseIdx_cons_succ]
    by_cases hg : 1 ≤ number ∧ number ≤ 1152921504606846976 ∧ 0 ≤ at' ∧ to ≤ 12 ∧ at' ≤ to
    · rw [decide_eq_true hg] at hb
      subst hb
      simp only [nn_some, add_mk, Nat.zero_add, Nat.add_zero, Nat.reduceAdd, Nat.reduceMul, Option.isNone_some, Option.isNone_none, br_true, br_false, Bool.not_true, Bool.not_false, xI_eq, xB_eq, xS_eq, xP_eq, xL_eq, x0_eq, x2_eq, x3_eq, chk_eq, true_and, and_true, List.set_cons_zero, List.set_cons_succ, List.eraseIdx_cons_zero, List.eraseIdx_cons_succ]
      obtain ⟨g1, g2, g3, g4, g5⟩ := hg
      have ew : IntKind.i64.wrap (to - at') = to - at' := wrap_id (by omega)
      rw [ew]
      have hbad : ¬ (number < 1 ∨ 1152921504606846976 < number ∨ at' < 0 ∨ ((Disk.new 12).safe.length : Int) < to ∨ to < at') := by rw [hlen]; omega
      refine br_dec (fun hlong => ?_) (fun hroom => ?_)
      · have e : lay (Disk.new 12) at' to number s = (Disk.new 12, 3) := by unfold lay; rw [if_neg hbad, if_pos (by omega)]
        rw [e] at h ⊢
        simp only [beq_self_eq_true, br_true]
        refine Disk_Later_spec (k := 0) h rfl ?_
        simp only [nn_some, add_mk, Nat.zero_add, Nat.add_zero, Nat.reduceAdd, Nat.reduceMul, Option.isNone_some, Option.isNone_none, br_true, br_false, Bool.not_true, Bool.not_false, xI_eq, xB_eq, xS_eq, xP_eq, xL_eq, x0_eq, x2_eq, x3_eq, chk_eq, true_and, and_true, List.set_cons_zero, List.set_cons_succ, List.eraseIdx_cons_zero, List.eraseIdx_cons_succ]
        exact hK w h.drop
      · have e : lay (Disk.new 12) at' to number s = layF at' number s (Disk.new 12) 0 (cnt s.size) := by unfold lay; rw [if_neg hbad, if_neg (by omega)]
        have hl0 := layF0 (at' := at') (number := number) (s := s) ⟨g1, g2⟩ g3 (cnt s.size) 0 (D := Disk.new 12) rfl (by rw [hlen]; omega) (by omega)
        have htk := fun o z => take_laid (at' := at') (to := to) (number := number) (s := s) ⟨g1, g2⟩ g3 g5 g4 (by omega) (other := o) (size := z)
        rw [e] at h hlo ⊢
        obtain ⟨l1, _, _, l4, _⟩ := hl0
        rw [l1]
        have ht1 := htk number (s.size : Int)
        rw [if_pos ⟨rfl, .inl rfl⟩, Int.toNat_natCast, List.take_of_length_le (by rw [toList_length]; omega)] at ht1
        have ht2 := htk other size
        generalize (layF at' number s (Disk.new 12) 0 (cnt s.size)).1 = D at *
        refine Take_spec (k := 0) h rfl hlo.1 fun w h => ?_
        rw [ht1]
        unfold takeRes
        simp only [nn_some, add_mk, Nat.zero_add, Nat.add_zero, Nat.reduceAdd, Nat.reduceMul, Option.isNone_some, Option.isNone_none, br_true, br_false, Bool.not_true, Bool.not_false, xI_eq, xB_eq, xS_eq, xP_eq, xL_eq, x0_eq, x2_eq, x3_eq, chk_eq, true_and, and_true, List.set_cons_zero, List.set_cons_succ, List.eraseIdx_cons_zero, List.eraseIdx_cons_succ]
        refine br_ne (fun hh => absurd rfl hh) (fun _ => ?_)
        refine Disk_Later_spec (k := 0) h rfl ?_
        simp only [nn_some, add_mk, Nat.zero_add, Nat.add_zero, Nat.reduceAdd, Nat.reduceMul, Option.isNone_some, Option.isNone_none, br_true, br_false, Bool.not_true, Bool.not_false, xI_eq, xB_eq, xS_eq, xP_eq, xL_eq, x0_eq, x2_eq, x3_eq, chk_eq, true_and, and_true, List.set_cons_zero, List.set_cons_succ, List.eraseIdx_cons_zero, List.eraseIdx_cons_succ]
        have el : (D.later.length : Int) = (cnt s.size : Int) := by rw [l4]; simp [Disk.new]
        refine br_ne (fun hh => absurd el hh) (fun _ => ?_)
        rw [bs_data, strEq_iff, decide_eq_true rfl]
        unfold bondstorelaw05_StampLays.j4
        simp only [nn_some, add_mk, Nat.zero_add, Nat.add_zero, Nat.reduceAdd, Nat.reduceMul, Option.isNone_some, Option.isNone_none, br_true, br_false, Bool.not_true, Bool.not_false, xI_eq, xB_eq, xS_eq, xP_eq, xL_eq, x0_eq, x2_eq, x3_eq, chk_eq, true_and, and_true, List.set_cons_zero, List.set_cons_succ, List.eraseIdx_cons_zero, List.eraseIdx_cons_succ]
        refine Take_spec (k := 0) h rfl hlo.1 fun w h => ?_
        rw [ht2]
        have j5t : ∀ w, St W w (disk d D :: L) → (size = s.size ∨ 0 < size ∧ size < s.size ∧ size.tmod 104 = 0) → bondstorelaw05_StampLays.j5 K true s size (bs (s.data.toList.take size.toNat)) true w := fun w h hsz => by
          unfold bondstorelaw05_StampLays.j5 slStr
          simp only [nn_some, add_mk, Nat.zero_add, Nat.add_zero, Nat.reduceAdd, Nat.reduceMul, Option.isNone_some, Option.isNone_none, br_true, br_false, Bool.not_true, Bool.not_false, xI_eq, xB_eq, xS_eq, xP_eq, xL_eq, x0_eq, x2_eq, x3_eq, chk_eq, true_and, and_true, List.set_cons_zero, List.set_cons_succ, List.eraseIdx_cons_zero, List.eraseIdx_cons_succ]
          refine ⟨by omega, ?_⟩
          have ex : s.extract 0 size.toNat = bs (s.data.toList.take size.toNat) := by
            apply bytes_ext
            rw [extract_toList]; simp [bs]
          rw [ex, strEq_iff, decide_eq_true rfl]
          exact hK w h.drop
        have j5f : ∀ w, St W w (disk d D :: L) → bondstorelaw05_StampLays.j5 K false s size .empty false w := fun w h => by
          unfold bondstorelaw05_StampLays.j5
          simp only [nn_some, add_mk, Nat.zero_add, Nat.add_zero, Nat.reduceAdd, Nat.reduceMul, Option.isNone_some, Option.isNone_none, br_true, br_false, Bool.not_true, Bool.not_false, xI_eq, xB_eq, xS_eq, xP_eq, xL_eq, x0_eq, x2_eq, x3_eq, chk_eq, true_and, and_true, List.set_cons_zero, List.set_cons_succ, List.eraseIdx_cons_zero, List.eraseIdx_cons_succ]
          have hem : (⟨#[]⟩ : ByteArray) = .empty := rfl
          rw [hem, strEq_iff, decide_eq_true rfl]
          exact hK w h.drop
        by_cases hc : other = number ∧ (size = s.size ∨ 0 < size ∧ size < s.size ∧ size.tmod 104 = 0)
        · rw [if_pos hc]
          obtain ⟨hon, hsz⟩ := hc
          unfold takeRes
          simp only [nn_some, add_mk, Nat.zero_add, Nat.add_zero, Nat.reduceAdd, Nat.reduceMul, Option.isNone_some, Option.isNone_none, br_true, br_false, Bool.not_true, Bool.not_false, xI_eq, xB_eq, xS_eq, xP_eq, xL_eq, x0_eq, x2_eq, x3_eq, chk_eq, true_and, and_true, List.set_cons_zero, List.set_cons_succ, List.eraseIdx_cons_zero, List.eraseIdx_cons_succ]
          refine br_eq (fun _ => ?_) (fun hh => absurd hon hh)
          refine br_eq (fun _ => j5t w h hsz) (fun hne => ?_)
          have hsz2 : 0 < size ∧ size < s.size ∧ size.tmod 104 = 0 := hsz.resolve_left hne
          refine br_dec (fun _ => ?_) (fun hh => absurd hsz2.1 hh)
          refine br_dec (fun _ => ?_) (fun hh => absurd hsz2.2.1 hh)
          refine ⟨by decide, ?_⟩
          rw [hsz2.2.2, beq_self_eq_true]
          exact j5t w h hsz
        · rw [if_neg hc]
          unfold takeRes
          simp only [nn_some, add_mk, Nat.zero_add, Nat.add_zero, Nat.reduceAdd, Nat.reduceMul, Option.isNone_some, Option.isNone_none, br_true, br_false, Bool.not_true, Bool.not_false, xI_eq, xB_eq, xS_eq, xP_eq, xL_eq, x0_eq, x2_eq, x3_eq, chk_eq, true_and, and_true, List.set_cons_zero, List.set_cons_succ, List.eraseIdx_cons_zero, List.eraseIdx_cons_succ]
          refine br_eq (fun hon => ?_) (fun _ => j5f w h)
          refine br_eq (fun he => absurd ⟨hon, .inl he⟩ hc) (fun _ => ?_)
          refine br_dec (fun h1 => ?_) (fun _ => j5f w h)
          refine br_dec (fun h2 => ?_) (fun _ => j5f w h)
          refine ⟨by decide, ?_⟩
          have : (size.tmod 104 == 0) = false := by
            simp only [beq_eq_false_iff_ne, ne_eq]
            exact fun h3 => hc ⟨hon, .inr ⟨h1, h2, h3⟩⟩
          rw [this]
          exact j5f w h
    · rw [decide_eq_false hg] at hb
      subst hb
      simp only [nn_some, add_mk, Nat.zero_add, Nat.add_zero, Nat.reduceAdd, Nat.reduceMul, Option.isNone_some, Option.isNone_none, br_true, br_false, Bool.not_true, Bool.not_false, xI_eq, xB_eq, xS_eq, xP_eq, xL_eq, x0_eq, x2_eq, x3_eq, chk_eq, true_and, and_true, List.set_cons_zero, List.set_cons_succ, List.eraseIdx_cons_zero, List.eraseIdx_cons_succ]
      have hbad : number < 1 ∨ 1152921504606846976 < number ∨ at' < 0 ∨ ((Disk.new 12).safe.length : Int) < to ∨ to < at' := by rw [hlen]; omega
      have e : lay (Disk.new 12) at' to number s = (Disk.new 12, 1) := by unfold lay; rw [if_pos hbad]
      rw [e] at h ⊢
      simp only [beq_self_eq_true, br_true]
      refine Disk_Later_spec (k := 0) h rfl ?_
      simp only [nn_some, add_mk, Nat.zero_add, Nat.add_zero, Nat.reduceAdd, Nat.reduceMul, Option.isNone_some, Option.isNone_none, br_true, br_false, Bool.not_true, Bool.not_false, xI_eq, xB_eq, xS_eq, xP_eq, xL_eq, x0_eq, x2_eq, x3_eq, chk_eq, true_and, and_true, List.set_cons_zero, List.set_cons_succ, List.eraseIdx_cons_zero, List.eraseIdx_cons_succ]
      exact hK w h.drop
  refine br_dec (fun h1 => ?_) (fun h1 => go _ (by symm; rw [decide_eq_false_iff_not]; omega))
  refine br_dec (fun h2 => ?_) (fun h2 => go _ (by symm; rw [decide_eq_false_iff_not]; omega))
  refine br_dec (fun h3 => ?_) (fun h3 => go _ (by symm; rw [decide_eq_false_iff_not]; omega))
  refine br_dec (fun h4 => ?_) (fun h4 => go _ (by symm; rw [decide_eq_false_iff_not]; omega))
  exact go _ (by rw [decide_eq_decide]; omega)

theorem Lays_ok {a0 a1 a2 a4 a5 : Int} {a3 : ByteArray} (w0 : (Lit.int .i64 a0).wf = true) (w1 : (Lit.int .i64 a1).wf = true) (_ : (Lit.int .i64 a2).wf = true) (w3 : a3.size ≤ reachBytes) (_ : (Lit.int .i64 a4).wf = true) (_ : (Lit.int .i64 a5).wf = true) :
    bondstorelaw05_StampLays.u [.int .i64 a0, .int .i64 a1, .int .i64 a2, .string a3, .int .i64 a4, .int .i64 a5] (fun v w' => v = .bool true ∧ Below W.heap.size W w') W := by
  unfold bondstorelaw05_StampLays.u
  exact Lays_spec (K := fun v w' => v = .bool true ∧ Below W.heap.size W w') (St.start W) w3 w0 w1 (fun w' h => ⟨rfl, h.below⟩)
end
end Go.Sep
