/- The law StampRoom. -/
import Derived.Test.YtidhimamegfdaaaDoorSt2
namespace Go.Sep
open Go.Den Go.RowKit Go.Prog Go.Plat
set_option linter.unusedSimpArgs false
set_option linter.unusedVariables false

/-- Leaves laid on a disk that isn't armed, where there's room. -/
theorem layF0 {at' number : Int} {s : ByteArray} (hnum : 1 ≤ number ∧ number ≤ 1152921504606846976) (hat : 0 ≤ at') : ∀ (n i : Nat) {D : Disk}, D.arm = 0 → at' + i + n ≤ D.safe.length → i + n ≤ 4096 →
    (layF at' number s D i n).2 = 0 ∧ (layF at' number s D i n).1.arm = 0 ∧ (layF at' number s D i n).1.safe = D.safe ∧ (layF at' number s D i n).1.later.length = D.later.length + n ∧
    ∀ j : Int, (j < at' + i ∨ at' + i + n ≤ j) → (layF at' number s D i n).1.now j = D.now j
  | 0, i, D, ha, hr, hi => ⟨rfl, ha, rfl, rfl, fun _ _ => rfl⟩
  | n + 1, i, D, ha, hr, hi => by
    have hg : Good number i (part s i) := ⟨hnum.1, hnum.2, by omega, by omega, part_size s i⟩
    have hsz := leaf_size hg
    have hi : D.is (at' + i) := ⟨by omega, by omega⟩
    have hbad : ¬ (¬ D.is (at' + i) ∨ 128 < (leaf number i (part s i)).size) := by
      rintro (hh | hh)
      · exact hh hi
      · omega
    have hw : D.write (at' + i) (leaf number i (part s i)) = ({ Go.Plat.Disk.tick D with later := D.later ++ [(at' + i, Disk.pad (leaf number i (part s i)))] }, 0) := by
      rw [Dk.write0 ha, if_neg hbad]
    have hn := fun j => Dk.now_write0 ha (at' + i) j (leaf number i (part s i))
    unfold layF
    have h0 : (D.write (at' + i) (leaf number i (part s i))).2 = 0 := by rw [hw]
    rw [if_neg (by rw [h0]; exact fun hh => hh rfl)]
    have hlen : (D.write (at' + i) (leaf number i (part s i))).1.later.length = D.later.length + 1 := by rw [hw]; simp
    have hsafe := (write_len D (at' + i) (leaf number i (part s i))).1
    have harm := Dk.write0_arm ha (at' + i) (leaf number i (part s i))
    have ih := layF0 hnum hat (s := s) n (i + 1) (D := (D.write (at' + i) (leaf number i (part s i))).1) harm (by rw [hsafe]; omega) (by omega)
    refine ⟨ih.1, ih.2.1, ih.2.2.1.trans hsafe, by rw [ih.2.2.2.1, hlen]; omega, fun j hj => ?_⟩
    rw [ih.2.2.2.2 j (by omega), hn j, if_neg (fun hh => by have := hh.2; omega)]

section
variable {W w : World} {L : List HP}

theorem Room_spec {at' : Int} {s : ByteArray} {sb : Option Addr} {sn sc : Nat} {ss : List ByteArray} {K : VK} (h : St W w L) (hr : Ro W sb sn 1 (ss.map .string)) (hmx : sn ≤ maxLen) (hs : s.size ≤ reachBytes)
    (hK : ∀ w', St W w' L → K (.bool true) w') : bondstorelaw05_StampRoom sb sn sc at' s K w := by
  unfold bondstorelaw05_StampRoom
  refine alive5_spec h fun w h => ?_
  simp only [nn_some, add_mk, Nat.zero_add, Nat.add_zero, Nat.reduceAdd, Nat.reduceMul, Option.isNone_some, Option.isNone_none, br_true, br_false, Bool.not_true, Bool.not_false, xI_eq, xB_eq, xS_eq, xP_eq, xL_eq, x0_eq, x2_eq, x3_eq, chk_eq, true_and, and_true, List.set_cons_zero, List.set_cons_succ, List.eraseIdx_cons_zero, List.eraseIdx_cons_succ]
  have go : ∀ b, (b = false → s.size ≤ 2000 ∧ 0 ≤ at' ∧ at' ≤ 12) → bondstorelaw05_StampRoom.j1 K sb sn sc at' s b w := fun b hb => by
    unfold bondstorelaw05_StampRoom.j1
    refine br_of (fun _ => hK w h) (fun hb2 => ?_)
    obtain ⟨h2000, h0, h12⟩ := hb hb2
    refine disk5_spec h hr hmx fun d D w hok harm hlat hlen h => ?_
    simp only [nn_some, add_mk, Nat.zero_add, Nat.add_zero, Nat.reduceAdd, Nat.reduceMul, Option.isNone_some, Option.isNone_none, br_true, br_false, Bool.not_true, Bool.not_false, xI_eq, xB_eq, xS_eq, xP_eq, xL_eq, x0_eq, x2_eq, x3_eq, chk_eq, true_and, and_true, List.set_cons_zero, List.set_cons_succ, List.eraseIdx_cons_zero, List.eraseIdx_cons_succ]
    refine ⟨fun us w' => ∃ (i : Nat) (b : Option Addr) (c : Nat) (xs : List Value), us = [.bool false, .pointer (some ⟨d, 0, none⟩), .slice b i c, .int .i64 i] ∧ i ≤ 12 ∧ (∀ k, k < i → xs[k]? = some (.string (D.read (k : Int)).1)) ∧
        St W w' (disk d D :: own b i c 1 xs :: L),
      fun us _ => match us with | [_, _, _, .int _ i] => 12 - i.toNat | _ => 0, ⟨0, none, 0, [], rfl, Nat.zero_le _, fun k hk => by omega, (h.push (own_nil 1)).perm (List.Perm.swap _ _ _)⟩, ?_⟩
    rintro b3 p2 b i c n2 w2 ⟨_, _, _, xs, he, hi, hx, hs⟩
    cases he
    refine br_dec (fun hlt => ?_) (fun hge => ?_)
    · have e5 : IntKind.i64.wrap ((i : Int) + 1) = ((i + 1 : Nat) : Int) := by rw [wrap_id (by omega)]; omega
      refine Disk_Read_spec (k := 0) hs rfl hok ?_
      simp only [nn_some, add_mk, Nat.zero_add, Nat.add_zero, Nat.reduceAdd, Nat.reduceMul, Option.isNone_some, Option.isNone_none, br_true, br_false, Bool.not_true, Bool.not_false, xI_eq, xB_eq, xS_eq, xP_eq, xL_eq, x0_eq, x2_eq, x3_eq, chk_eq, true_and, and_true, List.set_cons_zero, List.set_cons_succ, List.eraseIdx_cons_zero, List.eraseIdx_cons_succ]
      refine mk_of hs fun r w hs => ?_
      have hxl : xs.length = i := by have := (hs.own_cases (k := 2) rfl).1; omega
      refine appSl_own (k := 2) (ys := [.string (D.read (i : Int)).1]) hs rfl (Src_pt (k' := 0) hs rfl rfl fun j v hj => by rw [Nat.zero_add]; exact hj) (by simp) rfl (by omega) (by omega) (by simp [Value.oneCell']) fun b' c' w hs => ?_
      simp only [nn_some, add_mk, Nat.zero_add, Nat.add_zero, Nat.reduceAdd, Nat.reduceMul, Option.isNone_some, Option.isNone_none, br_true, br_false, Bool.not_true, Bool.not_false, xI_eq, xB_eq, xS_eq, xP_eq, xL_eq, x0_eq, x2_eq, x3_eq, chk_eq, true_and, and_true, List.set_cons_zero, List.set_cons_succ, List.eraseIdx_cons_zero, List.eraseIdx_cons_succ] at hs
      rw [e5]
      refine ⟨⟨i + 1, b', c', _, rfl, by omega, fun k hk => ?_, hs.drop⟩, by omega⟩
      by_cases hki : k = i
      · subst hki; rw [List.getElem?_append_right (by omega), hxl, Nat.sub_self]; rfl
      · rw [List.getElem?_append_left (by omega)]; exact hx k (by omega)
    have hi12 : i = 12 := by omega
    subst hi12
    refine Lay_spec (k := 0) hs rfl hok (by rw [hlat]; decide) ‹s.size ≤ reachBytes› fun w hs => ?_
    simp only [nn_some, add_mk, Nat.zero_add, Nat.add_zero, Nat.reduceAdd, Nat.reduceMul, Option.isNone_some, Option.isNone_none, br_true, br_false, Bool.not_true, Bool.not_false, xI_eq, xB_eq, xS_eq, xP_eq, xL_eq, x0_eq, x2_eq, x3_eq, chk_eq, true_and, and_true, List.set_cons_zero, List.set_cons_succ, List.eraseIdx_cons_zero, List.eraseIdx_cons_succ] at hs ⊢
    have hlo := lay_ok (at' := at') (to := 12) (number := 1125899906842624) (s := s) hok (by rw [hlat]; have : cnt s.size ≤ s.size + 1 := (by unfold cnt; split <;> omega); simp only [List.length_nil]; omega)
    have hgoodargs : ¬ ((1125899906842624 : Int) < 1 ∨ 1152921504606846976 < (1125899906842624 : Int) ∨ at' < 0 ∨ (D.safe.length : Int) < 12 ∨ (12 : Int) < at') := by omega
    by_cases hroom : (12 : Int) - at' < (cnt s.size : Int)
    · have e : lay D at' 12 1125899906842624 s = (D, 3) := by unfold lay; rw [if_neg hgoodargs, if_pos hroom]
      rw [e] at hs ⊢
      refine br_ne (fun _ => ?_) (fun hh => by simp at hh)
      refine Disk_Later_spec (k := 0) hs rfl ?_
      simp only [nn_some, add_mk, Nat.zero_add, Nat.add_zero, Nat.reduceAdd, Nat.reduceMul, Option.isNone_some, Option.isNone_none, br_true, br_false, Bool.not_true, Bool.not_false, xI_eq, xB_eq, xS_eq, xP_eq, xL_eq, x0_eq, x2_eq, x3_eq, chk_eq, true_and, and_true, List.set_cons_zero, List.set_cons_succ, List.eraseIdx_cons_zero, List.eraseIdx_cons_succ]
      rw [hlat]
      exact hK _ hs.drop.drop
    · have e : lay D at' 12 1125899906842624 s = layF at' 1125899906842624 s D 0 (cnt s.size) := by unfold lay; rw [if_neg hgoodargs, if_neg hroom]
      obtain ⟨l1, l2, l3, l4, l5⟩ := layF0 (at' := at') (number := 1125899906842624) (s := s) (by omega) h0 (cnt s.size) 0 harm (by omega) (by omega)
      rw [e] at hs hlo ⊢
      rw [l1]
      generalize (layF at' 1125899906842624 s D 0 (cnt s.size)).1 = D2 at *
      refine br_ne (fun hh => absurd rfl hh) (fun _ => ?_)
      refine Count_spec (by omega) ?_
      simp only [nn_some, add_mk, Nat.zero_add, Nat.add_zero, Nat.reduceAdd, Nat.reduceMul, Option.isNone_some, Option.isNone_none, br_true, br_false, Bool.not_true, Bool.not_false, xI_eq, xB_eq, xS_eq, xP_eq, xL_eq, x0_eq, x2_eq, x3_eq, chk_eq, true_and, and_true, List.set_cons_zero, List.set_cons_succ, List.eraseIdx_cons_zero, List.eraseIdx_cons_succ]
      refine ⟨fun us w' => ∃ (i : Nat), us = [.bool false, .pointer (some ⟨d, 0, none⟩), .slice b 12 c, .int .i64 (cnt s.size : Int), .int .i64 ((12 : Nat) : Int), .int .i64 i] ∧ i ≤ 12 ∧ St W w' (disk d D2 :: own b 12 c 1 xs :: L),
        fun us _ => match us with | [_, _, _, _, _, .int _ i] => 12 - i.toNat | _ => 0, ⟨0, rfl, Nat.zero_le _, hs⟩, ?_⟩
      rintro b4 p3 sb4 sn4 sc4 n7 n8 n9 w5 ⟨i, he, hi, hs⟩
      cases he
      refine br_dec (fun hlt => ?_) (fun hge => ?_)
      · have e5 : IntKind.i64.wrap ((i : Int) + 1) = ((i + 1 : Nat) : Int) := by rw [wrap_id (by omega)]; omega
        have e6 : IntKind.i64.wrap (at' + (cnt s.size : Int)) = at' + (cnt s.size : Int) := wrap_id (by omega)
        rw [e5, e6]
        refine Disk_Read_spec (k := 0) hs rfl hlo.1 ?_
        simp only [nn_some, add_mk, Nat.zero_add, Nat.add_zero, Nat.reduceAdd, Nat.reduceMul, Option.isNone_some, Option.isNone_none, br_true, br_false, Bool.not_true, Bool.not_false, xI_eq, xB_eq, xS_eq, xP_eq, xL_eq, x0_eq, x2_eq, x3_eq, chk_eq, true_and, and_true, List.set_cons_zero, List.set_cons_succ, List.eraseIdx_cons_zero, List.eraseIdx_cons_succ]
        have same : (i : Int) < at' ∨ at' + (cnt s.size : Int) ≤ i → (D2.read (i : Int)).1 = (D.read (i : Int)).1 := fun hh => by
          have h1 : D2.is (i : Int) := ⟨by omega, by rw [hlo.2]; omega⟩
          have h2 : D.is (i : Int) := ⟨by omega, by omega⟩
          unfold Disk.read
          rw [if_pos h1, if_pos h2]
          exact l5 i (by omega)
        refine br_dec (fun h1 => ?_) (fun h1 => ?_)
        · refine ixs_own (k := 1) hs rfl (by omega) fun r hr => ?_
          subst hr
          refine ld_own (k := 1) hs rfl (v := .string (D.read (i : Int)).1) (by rw [Int.toNat_natCast, Nat.mul_one]; exact hx i (by omega)) ?_
          simp only [nn_some, add_mk, Nat.zero_add, Nat.add_zero, Nat.reduceAdd, Nat.reduceMul, Option.isNone_some, Option.isNone_none, br_true, br_false, Bool.not_true, Bool.not_false, xI_eq, xB_eq, xS_eq, xP_eq, xL_eq, x0_eq, x2_eq, x3_eq, chk_eq, true_and, and_true, List.set_cons_zero, List.set_cons_succ, List.eraseIdx_cons_zero, List.eraseIdx_cons_succ]
          rw [same (.inl h1), strEq_iff, decide_eq_true rfl]
          simp only [nn_some, add_mk, Nat.zero_add, Nat.add_zero, Nat.reduceAdd, Nat.reduceMul, Option.isNone_some, Option.isNone_none, br_true, br_false, Bool.not_true, Bool.not_false, xI_eq, xB_eq, xS_eq, xP_eq, xL_eq, x0_eq, x2_eq, x3_eq, chk_eq, true_and, and_true, List.set_cons_zero, List.set_cons_succ, List.eraseIdx_cons_zero, List.eraseIdx_cons_succ]
          exact ⟨⟨i + 1, rfl, by omega, hs⟩, by omega⟩
        refine br_dec (fun h2 => ?_) (fun h2 => ?_)
        · refine ixs_own (k := 1) hs rfl (by omega) fun r hr => ?_
          subst hr
          refine ld_own (k := 1) hs rfl (v := .string (D.read (i : Int)).1) (by rw [Int.toNat_natCast, Nat.mul_one]; exact hx i (by omega)) ?_
          simp only [nn_some, add_mk, Nat.zero_add, Nat.add_zero, Nat.reduceAdd, Nat.reduceMul, Option.isNone_some, Option.isNone_none, br_true, br_false, Bool.not_true, Bool.not_false, xI_eq, xB_eq, xS_eq, xP_eq, xL_eq, x0_eq, x2_eq, x3_eq, chk_eq, true_and, and_true, List.set_cons_zero, List.set_cons_succ, List.eraseIdx_cons_zero, List.eraseIdx_cons_succ]
          rw [same (.inr (by omega)), strEq_iff, decide_eq_true rfl]
          simp only [nn_some, add_mk, Nat.zero_add, Nat.add_zero, Nat.reduceAdd, Nat.reduceMul, Option.isNone_some, Option.isNone_none, br_true, br_false, Bool.not_true, Bool.not_false, xI_eq, xB_eq, xS_eq, xP_eq, xL_eq, x0_eq, x2_eq, x3_eq, chk_eq, true_and, and_true, List.set_cons_zero, List.set_cons_succ, List.eraseIdx_cons_zero, List.eraseIdx_cons_succ]
          exact ⟨⟨i + 1, rfl, by omega, hs⟩, by omega⟩
        · exact ⟨⟨i + 1, rfl, by omega, hs⟩, by omega⟩
      · refine Disk_Later_spec (k := 0) hs rfl ?_
        simp only [nn_some, add_mk, Nat.zero_add, Nat.add_zero, Nat.reduceAdd, Nat.reduceMul, Option.isNone_some, Option.isNone_none, br_true, br_false, Bool.not_true, Bool.not_false, xI_eq, xB_eq, xS_eq, xP_eq, xL_eq, x0_eq, x2_eq, x3_eq, chk_eq, true_and, and_true, List.set_cons_zero, List.set_cons_succ, List.eraseIdx_cons_zero, List.eraseIdx_cons_succ]
        have el : (D2.later.length : Int) = (cnt s.size : Int) := by rw [l4, hlat]; simp
        rw [el, beq_self_eq_true]
        simp only [nn_some, add_mk, Nat.zero_add, Nat.add_zero, Nat.reduceAdd, Nat.reduceMul, Option.isNone_some, Option.isNone_none, br_true, br_false, Bool.not_true, Bool.not_false, xI_eq, xB_eq, xS_eq, xP_eq, xL_eq, x0_eq, x2_eq, x3_eq, chk_eq, true_and, and_true, List.set_cons_zero, List.set_cons_succ, List.eraseIdx_cons_zero, List.eraseIdx_cons_succ]
        refine rCount_spec (by omega) ?_
        simp only [nn_some, add_mk, Nat.zero_add, Nat.add_zero, Nat.reduceAdd, Nat.reduceMul, Option.isNone_some, Option.isNone_none, br_true, br_false, Bool.not_true, Bool.not_false, xI_eq, xB_eq, xS_eq, xP_eq, xL_eq, x0_eq, x2_eq, x3_eq, chk_eq, true_and, and_true, List.set_cons_zero, List.set_cons_succ, List.eraseIdx_cons_zero, List.eraseIdx_cons_succ]
        rw [beq_self_eq_true]
        exact hK _ hs.drop.drop
  refine br_dec (fun h1 => go _ (fun hf => by cases hf)) (fun h1 => ?_)
  refine br_dec (fun h2 => go _ (fun hf => by cases hf)) (fun h2 => ?_)
  exact go _ (fun hf => ⟨by omega, by omega, by have := of_decide_eq_false hf; omega⟩)

theorem Room_ok {a1 : Int} {a2 : ByteArray} {a0 : Option Addr} {n0 c0 : Nat} {x0 : List Value} (ro0 : Ro W a0 n0 1 x0) (el0 : Elems [.s] n0 x0) (mx0 : n0 ≤ maxLen) (_ : (Lit.int .i64 a1).wf = true) (w2 : a2.size ≤ reachBytes) :
    bondstorelaw05_StampRoom.u [.slice a0 n0 c0, .int .i64 a1, .string a2] (fun v w' => v = .bool true ∧ Below W.heap.size W w') W := by
  obtain ⟨ss, h1, h2, h3⟩ := elems_str el0 ro0.1
  subst h2
  unfold bondstorelaw05_StampRoom.u
  exact Room_spec (K := fun v w' => v = .bool true ∧ Below W.heap.size W w') (St.start W) ro0 mx0 w2 (fun w' h => ⟨rfl, h.below⟩)
end
end Go.Sep
