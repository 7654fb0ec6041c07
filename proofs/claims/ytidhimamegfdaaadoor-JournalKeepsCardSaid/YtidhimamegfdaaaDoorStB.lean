/- StB: StRoom, St3, St4, St5, St6, St7, merged: part of the proof: see the last text. -/
import Derived.Test.YtidhimamegfdaaaDoorStA
import Derived.Test.YtidhimamegfdaaaDoorTransD
/- The law StampRoom. -/
namespace Go.Sep
open Go.Den Go.RowKit Go.Prog Go.Plat
set_option linter.unusedSimpArgs false
set_option linter.unusedVariables false

/-- Leaves laid on a disk that isn't armed, where there's room. -/
theorem layF0 {at' number : Int} {s : ByteArray} (hnum : 1 ≤ number ∧ number ≤ 1152921504606846976) (hat : 0 ≤ at') : ∀ (n i : Nat) {D : Disk}, D.arm = 0 → at' + i + n ≤ D.safe.length → i + n ≤ 4096 →
    (layF at' number s D i n).2 = 0 ∧ (layF at' number s D i n).1.arm = 0 ∧ (layF at' number s D i n).1.safe = D.safe ∧ (layF at' number s D i n).1.later.length = D.later.length + n ∧
    ∀ j : Int, (j < at' + i ∨ at' + i + n ≤ j) → (layF at' number s D i n).1.now j = D.now j
  | 0, i, D, ha, hr, hi => ⟨rfl, ha, rfl, rfl, fun _ _ => rfl⟩
  | n + 1, i, D, ha, hr, hi => by
    have hg : Good number i (part s i) := ⟨hnum.1, hnum.2, by omega, by omega, part_size s i⟩
    have hsz := leaf_size hg
    have hi : D.is (at' + i) := ⟨by omega, by omega⟩
    have hbad : ¬ (¬ D.is (at' + i) ∨ 128 < (leaf number i (part s i)).size) := by
      rintro (hh | hh)
      · exact hh hi
      · omega
    have hw : D.write (at' + i) (leaf number i (part s i)) = ({ Go.Plat.Disk.tick D with later := D.later ++ [(at' + i, Disk.pad (leaf number i (part s i)))] }, 0) := by
      rw [Dk.write0 ha, if_neg hbad]
    have hn := fun j => Dk.now_write0 ha (at' + i) j (leaf number i (part s i))
    unfold layF
    have h0 : (D.write (at' + i) (leaf number i (part s i))).2 = 0 := by rw [hw]
    rw [if_neg (by rw [h0]; exact fun hh => hh rfl)]
    have hlen : (D.write (at' + i) (leaf number i (part s i))).1.later.length = D.later.length + 1 := by rw [hw]; simp
    have hsafe := (write_len D (at' + i) (leaf number i (part s i))).1
    have harm := Dk.write0_arm ha (at' + i) (leaf number i (part s i))
    have ih := layF0 hnum hat (s := s) n (i + 1) (D := (D.write (at' + i) (leaf number i (part s i))).1) harm (by rw [hsafe]; omega) (by omega)
    refine ⟨ih.1, ih.2.1, ih.2.2.1.trans hsafe, by rw [ih.2.2.2.1, hlen]; omega, fun j hj => ?_⟩
    rw [ih.2.2.2.2 j (by omega), hn j, if_neg (fun hh => by have := hh.2; omega)]

section
variable {W w : World} {L : List HP}

theorem Room_spec {at' : Int} {s : ByteArray} {sb : Option Addr} {sn sc : Nat} {ss : List ByteArray} {K : VK} (h : St W w L) (hr : Ro W sb sn 1 (ss.map .string)) (hmx : sn ≤ maxLen) (hs : s.size ≤ reachBytes)
    (hK : ∀ w', St W w' L → K (.bool true) w') : bondstorelaw05_StampRoom sb sn sc at' s K w := by
  unfold bondstorelaw05_StampRoom
  refine alive5_spec h fun w h => ?_
  simp only [nn_some, add_mk, Nat.zero_add, Nat.add_zero, Nat.reduceAdd, Nat.reduceMul, Option.isNone_some, Option.isNone_none, br_true, br_false, Bool.not_true, Bool.not_false, xI_eq, xB_eq, xS_eq, xP_eq, xL_eq, x0_eq, x2_eq, x3_eq, chk_eq, true_and, and_true, List.set_cons_zero, List.set_cons_succ, List.eraseIdx_cons_zero, List.eraseIdx_cons_succ]
  have go : ∀ b, (b = false → s.size ≤ 2000 ∧ 0 ≤ at' ∧ at' ≤ 12) → bondstorelaw05_StampRoom.j1 K sb sn sc at' s b w := fun b hb => by
    unfold bondstorelaw05_StampRoom.j1
    refine br_of (fun _ => hK w h) (fun hb2 => ?_)
    obtain ⟨h2000, h0, h12⟩ := hb hb2
    refine disk5_spec h hr hmx fun d D w hok harm hlat hlen h => ?_
    simp only [nn_some, add_mk, Nat.zero_add, Nat.add_zero, Nat.reduceAdd, Nat.reduceMul, Option.isNone_some, Option.isNone_none, br_true, br_false, Bool.not_true, Bool.not_false, xI_eq, xB_eq, xS_eq, xP_eq, xL_eq, x0_eq, x2_eq, x3_eq, chk_eq, true_and, and_true, List.set_cons_zero, List.set_cons_succ, List.eraseIdx_cons_zero, List.eraseIdx_cons_succ]
    refine ⟨fun us w' => ∃ (i : Nat) (b : Option Addr) (c : Nat) (xs : List Value), us = [.bool false, .pointer (some ⟨d, 0, none⟩), .slice b i c, .int .i64 i] ∧ i ≤ 12 ∧ (∀ k, k < i → xs[k]? = some (.string (D.read (k : Int)).1)) ∧
        St W w' (disk d D :: own b i c 1 xs :: L),
      fun us _ => match us with | [_, _, _, .int _ i] => 12 - i.toNat | _ => 0, ⟨0, none, 0, [], rfl, Nat.zero_le _, fun k hk => by omega, (h.push (own_nil 1)).perm (List.Perm.swap _ _ _)⟩, ?_⟩
    rintro b3 p2 b i c n2 w2 ⟨_, _, _, xs, he, hi, hx, hs⟩
    cases he
    refine br_dec (fun hlt => ?_) (fun hge => ?_)
    · have e5 : IntKind.i64.wrap ((i : Int) + 1) = ((i + 1 : Nat) : Int) := by rw [wrap_id (by omega)]; omega
      refine Disk_Read_spec (k := 0) hs rfl hok ?_
      simp only [nn_some, add_mk, Nat.zero_add, Nat.add_zero, Nat.reduceAdd, Nat.reduceMul, Option.isNone_some, Option.isNone_none, br_true, br_false, Bool.not_true, Bool.not_false, xI_eq, xB_eq, xS_eq, xP_eq, xL_eq, x0_eq, x2_eq, x3_eq, chk_eq, true_and, and_true, List.set_cons_zero, List.set_cons_succ, List.eraseIdx_cons_zero, List.eraseIdx_cons_succ]
      refine mk_of hs fun r w hs => ?_
      have hxl : xs.length = i := by have := (hs.own_cases (k := 2) rfl).1; omega
      refine appSl_own (k := 2) (ys := [.string (D.read (i : Int)).1]) hs rfl (Src_pt (k' := 0) hs rfl rfl fun j v hj => by rw [Nat.zero_add]; exact hj) (by simp) rfl (by omega) (by omega) (by simp [Value.oneCell']) fun b' c' w hs => ?_
      simp only [nn_some, add_mk, Nat.zero_add, Nat.add_zero, Nat.reduceAdd, Nat.reduceMul, Option.isNone_some, Option.isNone_none, br_true, br_false, Bool.not_true, Bool.not_false, xI_eq, xB_eq, xS_eq, xP_eq, xL_eq, x0_eq, x2_eq, x3_eq, chk_eq, true_and, and_true, List.set_cons_zero, List.set_cons_succ, List.eraseIdx_cons_zero, List.eraseIdx_cons_succ] at hs
      rw [e5]
      refine ⟨⟨i + 1, b', c', _, rfl, by omega, fun k hk => ?_, hs.drop⟩, by omega⟩
      by_cases hki : k = i
      · subst hki; rw [List.getElem?_append_right (by omega), hxl, Nat.sub_self]; rfl
      · rw [List.getElem?_append_left (by omega)]; exact hx k (by omega)
    have hi12 : i = 12 := by omega
    subst hi12
    refine Lay_spec (k := 0) hs rfl hok (by rw [hlat]; decide) ‹s.size ≤ reachBytes› fun w hs => ?_
    simp only [nn_some, add_mk, Nat.zero_add, Nat.add_zero, Nat.reduceAdd, Nat.reduceMul, Option.isNone_some, Option.isNone_none, br_true, br_false, Bool.not_true, Bool.not_false, xI_eq, xB_eq, xS_eq, xP_eq, xL_eq, x0_eq, x2_eq, x3_eq, chk_eq, true_and, and_true, List.set_cons_zero, List.set_cons_succ, List.eraseIdx_cons_zero, List.eraseIdx_cons_succ] at hs ⊢
    have hlo := lay_ok (at' := at') (to := 12) (number := 1125899906842624) (s := s) hok (by rw [hlat]; have : cnt s.size ≤ s.size + 1 := (by unfold cnt; split <;> omega); simp only [List.length_nil]; omega)
    have hgoodargs : ¬ ((1125899906842624 : Int) < 1 ∨ 1152921504606846976 < (1125899906842624 : Int) ∨ at' < 0 ∨ (D.safe.length : Int) < 12 ∨ (12 : Int) < at') := by omega
    by_cases hroom : (12 : Int) - at' < (cnt s.size : Int)
    · have e : lay D at' 12 1125899906842624 s = (D, 3) := by unfold lay; rw [if_neg hgoodargs, if_pos hroom]
      rw [e] at hs ⊢
      refine br_ne (fun _ => ?_) (fun hh => by simp at hh)
      refine Disk_Later_spec (k := 0) hs rfl ?_
      simp only [nn_some, add_mk, Nat.zero_add, Nat.add_zero, Nat.reduceAdd, Nat.reduceMul, Option.isNone_some, Option.isNone_none, br_true, br_false, Bool.not_true, Bool.not_false, xI_eq, xB_eq, xS_eq, xP_eq, xL_eq, x0_eq, x2_eq, x3_eq, chk_eq, true_and, and_true, List.set_cons_zero, List.set_cons_succ, List.eraseIdx_cons_zero, List.eraseIdx_cons_succ]
      rw [hlat]
      exact hK _ hs.drop.drop
    · have e : lay D at' 12 1125899906842624 s = layF at' 1125899906842624 s D 0 (cnt s.size) := by unfold lay; rw [if_neg hgoodargs, if_neg hroom]
      obtain ⟨l1, l2, l3, l4, l5⟩ := layF0 (at' := at') (number := 1125899906842624) (s := s) (by omega) h0 (cnt s.size) 0 harm (by omega) (by omega)
      rw [e] at hs hlo ⊢
      rw [l1]
      generalize (layF at' 1125899906842624 s D 0 (cnt s.size)).1 = D2 at *
      refine br_ne (fun hh => absurd rfl hh) (fun _ => ?_)
      refine Count_spec (by omega) ?_
      simp only [nn_some, add_mk, Nat.zero_add, Nat.add_zero, Nat.reduceAdd, Nat.reduceMul, Option.isNone_some, Option.isNone_none, br_true, br_false, Bool.not_true, Bool.not_false, xI_eq, xB_eq, xS_eq, xP_eq, xL_eq, x0_eq, x2_eq, x3_eq, chk_eq, true_and, and_true, List.set_cons_zero, List.set_cons_succ, List.eraseIdx_cons_zero, List.eraseIdx_cons_succ]
      refine ⟨fun us w' => ∃ (i : Nat), us = [.bool false, .pointer (some ⟨d, 0, none⟩), .slice b 12 c, .int .i64 (cnt s.size : Int), .int .i64 ((12 : Nat) : Int), .int .i64 i] ∧ i ≤ 12 ∧ St W w' (disk d D2 :: own b 12 c 1 xs :: L),
        fun us _ => match us with | [_, _, _, _, _, .int _ i] => 12 - i.toNat | _ => 0, ⟨0, rfl, Nat.zero_le _, hs⟩, ?_⟩
      rintro b4 p3 sb4 sn4 sc4 n7 n8 n9 w5 ⟨i, he, hi, hs⟩
      cases he
      refine br_dec (fun hlt => ?_) (fun hge => ?_)
      · have e5 : IntKind.i64.wrap ((i : Int) + 1) = ((i + 1 : Nat) : Int) := by rw [wrap_id (by omega)]; omega
        have e6 : IntKind.i64.wrap (at' + (cnt s.size : Int)) = at' + (cnt s.size : Int) := wrap_id (by omega)
        rw [e5, e6]
        refine Disk_Read_spec (k := 0) hs rfl hlo.1 ?_
        simp only [nn_some, add_mk, Nat.zero_add, Nat.add_zero, Nat.reduceAdd, Nat.reduceMul, Option.isNone_some, Option.isNone_none, br_true, br_false, Bool.not_true, Bool.not_false, xI_eq, xB_eq, xS_eq, xP_eq, xL_eq, x0_eq, x2_eq, x3_eq, chk_eq, true_and, and_true, List.set_cons_zero, List.set_cons_succ, List.eraseIdx_cons_zero, List.eraseIdx_cons_succ]
        have same : (i : Int) < at' ∨ at' + (cnt s.size : Int) ≤ i → (D2.read (i : Int)).1 = (D.read (i : Int)).1 := fun hh => by
          have h1 : D2.is (i : Int) := ⟨by omega, by rw [hlo.2]; omega⟩
          have h2 : D.is (i : Int) := ⟨by omega, by omega⟩
          unfold Disk.read
          rw [if_pos h1, if_pos h2]
          exact l5 i (by omega)
        refine br_dec (fun h1 => ?_) (fun h1 => ?_)
        · refine ixs_own (k := 1) hs rfl (by omega) fun r hr => ?_
          subst hr
          refine ld_own (k := 1) hs rfl (v := .string (D.read (i : Int)).1) (by rw [Int.toNat_natCast, Nat.mul_one]; exact hx i (by omega)) ?_
          simp only [nn_some, add_mk, Nat.zero_add, Nat.add_zero, Nat.reduceAdd, Nat.reduceMul, Option.isNone_some, Option.isNone_none, br_true, br_false, Bool.not_true, Bool.not_false, xI_eq, xB_eq, xS_eq, xP_eq, xL_eq, x0_eq, x2_eq, x3_eq, chk_eq, true_and, and_true, List.set_cons_zero, List.set_cons_succ, List.eraseIdx_cons_zero, List.eraseIdx_cons_succ]
          rw [same (.inl h1), strEq_iff, decide_eq_true rfl]
          simp only [nn_some, add_mk, Nat.zero_add, Nat.add_zero, Nat.reduceAdd, Nat.reduceMul, Option.isNone_some, Option.isNone_none, br_true, br_false, Bool.not_true, Bool.not_false, xI_eq, xB_eq, xS_eq, xP_eq, xL_eq, x0_eq, x2_eq, x3_eq, chk_eq, true_and, and_true, List.set_cons_zero, List.set_cons_succ, List.eraseIdx_cons_zero, List.eraseIdx_cons_succ]
          exact ⟨⟨i + 1, rfl, by omega, hs⟩, by omega⟩
        refine br_dec (fun h2 => ?_) (fun h2 => ?_)
        · refine ixs_own (k := 1) hs rfl (by omega) fun r hr => ?_
          subst hr
          refine ld_own (k := 1) hs rfl (v := .string (D.read (i : Int)).1) (by rw [Int.toNat_natCast, Nat.mul_one]; exact hx i (by omega)) ?_
          simp only [nn_some, add_mk, Nat.zero_add, Nat.add_zero, Nat.reduceAdd, Nat.reduceMul, Option.isNone_some, Option.isNone_none, br_true, br_false, Bool.not_true, Bool.not_false, xI_eq, xB_eq, xS_eq, xP_eq, xL_eq, x0_eq, x2_eq, x3_eq, chk_eq, true_and, and_true, List.set_cons_zero, List.set_cons_succ, List.eraseIdx_cons_zero, List.eraseIdx_cons_succ]
          rw [same (.inr (by omega)), strEq_iff, decide_eq_true rfl]
          simp only [nn_some, add_mk, Nat.zero_add, Nat.add_zero, Nat.reduceAdd, Nat.reduceMul, Option.isNone_some, Option.isNone_none, br_true, br_false, Bool.not_true, Bool.not_false, xI_eq, xB_eq, xS_eq, xP_eq, xL_eq, x0_eq, x2_eq, x3_eq, chk_eq, true_and, and_true, List.set_cons_zero, List.set_cons_succ, List.eraseIdx_cons_zero, List.eraseIdx_cons_succ]
          exact ⟨⟨i + 1, rfl, by omega, hs⟩, by omega⟩
        · exact ⟨⟨i + 1, rfl, by omega, hs⟩, by omega⟩
      · refine Disk_Later_spec (k := 0) hs rfl ?_
        simp only [nn_some, add_mk, Nat.zero_add, Nat.add_zero, Nat.reduceAdd, Nat.reduceMul, Option.isNone_some, Option.isNone_none, br_true, br_false, Bool.not_true, Bool.not_false, xI_eq, xB_eq, xS_eq, xP_eq, xL_eq, x0_eq, x2_eq, x3_eq, chk_eq, true_and, and_true, List.set_cons_zero, List.set_cons_succ, List.eraseIdx_cons_zero, List.eraseIdx_cons_succ]
        have el : (D2.later.length : Int) = (cnt s.size : Int) := by rw [l4, hlat]; simp
        rw [el, beq_self_eq_true]
        simp only [nn_some, add_mk, Nat.zero_add, Nat.add_zero, Nat.reduceAdd, Nat.reduceMul, Option.isNone_some, Option.isNone_none, br_true, br_false, Bool.not_true, Bool.not_false, xI_eq, xB_eq, xS_eq, xP_eq, xL_eq, x0_eq, x2_eq, x3_eq, chk_eq, true_and, and_true, List.set_cons_zero, List.set_cons_succ, List.eraseIdx_cons_zero, List.eraseIdx_cons_succ]
        refine rCount_spec (by omega) ?_
        simp only [nn_some, add_mk, Nat.zero_add, Nat.add_zero, Nat.reduceAdd, Nat.reduceMul, Option.isNone_some, Option.isNone_none, br_true, br_false, Bool.not_true, Bool.not_false, xI_eq, xB_eq, xS_eq, xP_eq, xL_eq, x0_eq, x2_eq, x3_eq, chk_eq, true_and, and_true, List.set_cons_zero, List.set_cons_succ, List.eraseIdx_cons_zero, List.eraseIdx_cons_succ]
        rw [beq_self_eq_true]
        exact hK _ hs.drop.drop
  refine br_dec (fun h1 => go _ (fun hf => by cases hf)) (fun h1 => ?_)
  refine br_dec (fun h2 => go _ (fun hf => by cases hf)) (fun h2 => ?_)
  exact go _ (fun hf => ⟨by omega, by omega, by have := of_decide_eq_false hf; omega⟩)

theorem Room_ok {a1 : Int} {a2 : ByteArray} {a0 : Option Addr} {n0 c0 : Nat} {x0 : List Value} (ro0 : Ro W a0 n0 1 x0) (el0 : Elems [.s] n0 x0) (mx0 : n0 ≤ maxLen) (_ : (Lit.int .i64 a1).wf = true) (w2 : a2.size ≤ reachBytes) :
    bondstorelaw05_StampRoom.u [.slice a0 n0 c0, .int .i64 a1, .string a2] (fun v w' => v = .bool true ∧ Below W.heap.size W w') W := by
  obtain ⟨ss, h1, h2, h3⟩ := elems_str el0 ro0.1
  subst h2
  unfold bondstorelaw05_StampRoom.u
  exact Room_spec (K := fun v w' => v = .bool true ∧ Below W.heap.size W w') (St.start W) ro0 mx0 w2 (fun w' h => ⟨rfl, h.below⟩)
end
end Go.Sep

/- Layer 5: readers, the ends of a sector, the greatest number. -/
namespace Go.Sep
open Go.Den Go.RowKit Go.Prog Go.Plat
set_option linter.unusedSimpArgs false
set_option linter.unusedVariables false

section
variable {W w : World} {L : List HP} {k : Nat}

theorem heap_freeze (w : World) (a : Addr) (n j : Nat) (hj : j ≠ a.block) : (w.freeze a n).heap[j]? = w.heap[j]? := by
  unfold World.freeze
  split
  · rfl
  · simp only [Array.getElem?_modify]
    rw [if_neg (fun h => hj h.symm)]

theorem s2b_of {s : ByteArray} {K : Nat → Nat → WK} (h : St W w L) (hK : ∀ r c w', St W w' (own (some ⟨r, 0, none⟩) s.size c 1 (s.data.toList.map u8v) :: L) → K r c w') : s2b s K w := by
  intro c t hc
  have h1 := h.drew.new ((s.data.toList.map u8v) ++ List.replicate (c - s.size) (.int .u8 0)) t
  have hsz : s.data.toList.length = s.size := rfl
  have ecells : ((strCells s).toArray ++ Array.replicate (c - s.size) (.int .u8 0) : Array Value) = ⟨(s.data.toList.map u8v) ++ List.replicate (c - s.size) (.int .u8 0)⟩ := by
    apply Array.ext'
    rw [Array.toList_append, Array.toList_replicate]
    rfl
  rw [ecells]
  generalize hcs : (s.data.toList.map u8v) ++ List.replicate (c - s.size) (Value.int .u8 0) = cs at *
  have hlen : cs.length = c := by rw [← hcs]; simp; omega
  have hhp : (w.drew.alloc (.cells ⟨cs⟩ t)).heap[w.heap.size]? = some (.cells ⟨cs⟩ t) := by
    show (w.heap.push (.cells ⟨cs⟩ t))[w.heap.size]? = _
    rw [Array.getElem?_push_size]
  have hv' : view ((w.drew.alloc (.cells ⟨cs⟩ t)).freeze ⟨w.heap.size, c, none⟩ 1) w.heap.size = some cs := by
    unfold view World.freeze
    rw [if_neg (by decide)]
    simp only [Array.getElem?_modify, hhp]
    simp [hlen]
  have hb := h1.1
  have h2 := h1.turn (k := 0) rfl (w' := (w.drew.alloc (.cells ⟨cs⟩ t)).freeze ⟨w.heap.size, c, none⟩ 1) ?_ hv' (fun j hj _ => heap_freeze _ _ _ _ hj)
  · refine hK _ _ _ ?_
    refine St.mono (A := pt w.heap.size cs) h2 fun g hp => ⟨by rw [List.length_map]; omega, .inr ⟨_, List.replicate (c - s.size) (.int .u8 0), rfl, hc, by simp, ?_⟩⟩
    rw [hcs]; exact hp
  · refine ⟨?_, ?_, ?_, ?_, fun j hj => ?_⟩
    · unfold World.freeze; rw [if_neg (by decide)]; exact hb.os
    · unfold World.freeze; rw [if_neg (by decide)]; exact hb.tape
    · unfold World.freeze; rw [if_neg (by decide)]; exact hb.output
    · unfold World.freeze; rw [if_neg (by decide)]; simp only [Array.size_modify]; exact hb.size
    · rw [heap_freeze _ _ _ _ (by have := h.1.size; simp only; omega)]; exact hb.block j hj

/-! ### Readers -/

def rdr (r : Nat) (s : ByteArray) (t : Bool) : HP := pt r [.string s, .bool t]

def rawT (s : ByteArray) (t : Bool) (n : Int) : Bool := t || decide (n < 0 ∨ (s.size : Int) < n)
def rawV (s : ByteArray) (t : Bool) (n : Int) : ByteArray := if rawT s t n then .empty else s.extract 0 n.toNat
def rawS (s : ByteArray) (t : Bool) (n : Int) : ByteArray := if rawT s t n then s else s.extract n.toNat s.size

theorem tRead_spec {s : ByteArray} {K : VK} (h : St W w L) (hK : ∀ r w', St W w' (rdr r s false :: L) → K (.pointer (some ⟨r, 0, none⟩)) w') : tape_Read s K w := by
  unfold tape_Read
  exact ⟨⟨rfl, trivial⟩, mk_of h fun r w hs => hK r w hs⟩

theorem Raw_spec {r : Nat} {s : ByteArray} {t : Bool} {n : Int} {K : VK} (h : St W w L) (hk : L[k]? = some (rdr r s t)) (hK : ∀ w', St W w' (L.set k (rdr r (rawS s t n) (rawT s t n))) → K (.string (rawV s t n)) w') : tape_Reader_Raw (some ⟨r, 0, none⟩) n K w := by
  unfold tape_Reader_Raw
  unfold rdr at hk
  simp only [nn_some, add_mk, Nat.zero_add, Nat.add_zero, Nat.reduceAdd, Nat.reduceMul, Option.isNone_some, Option.isNone_none, br_true, br_false, Bool.not_true, Bool.not_false, xI_eq, xB_eq, xS_eq, xP_eq, xL_eq, x0_eq, x2_eq, x3_eq, chk_eq, true_and, and_true, List.set_cons_zero, List.set_cons_succ, List.eraseIdx_cons_zero, List.eraseIdx_cons_succ]
  refine ld_pt hk (h := h) rfl ?_
  simp only [nn_some, add_mk, Nat.zero_add, Nat.add_zero, Nat.reduceAdd, Nat.reduceMul, Option.isNone_some, Option.isNone_none, br_true, br_false, Bool.not_true, Bool.not_false, xI_eq, xB_eq, xS_eq, xP_eq, xL_eq, x0_eq, x2_eq, x3_eq, chk_eq, true_and, and_true, List.set_cons_zero, List.set_cons_succ, List.eraseIdx_cons_zero, List.eraseIdx_cons_succ]
  have bad : rawT s t n = true → ∀ w', St W w' (L.set k (pt r [.string s, .bool true])) → K (.string .empty) w' := fun hb w' hs => by
    have := hK w'
    unfold rawS rawV at this
    rw [if_pos hb, if_pos hb, hb] at this
    exact this hs
  refine br_of (fun ht => ?_) (fun ht => ?_)
  · refine st_pt h hk (Nat.le_of_ble_eq_true rfl) rfl fun w hs => ?_
    refine ld_pt hs (set_get hk) rfl ?_
    simp only [nn_some, add_mk, Nat.zero_add, Nat.add_zero, Nat.reduceAdd, Nat.reduceMul, Option.isNone_some, Option.isNone_none, br_true, br_false, Bool.not_true, Bool.not_false, xI_eq, xB_eq, xS_eq, xP_eq, xL_eq, x0_eq, x2_eq, x3_eq, chk_eq, true_and, and_true, List.set_cons_zero, List.set_cons_succ, List.eraseIdx_cons_zero, List.eraseIdx_cons_succ] at hs ⊢
    exact bad (by simp [rawT, ht]) w hs
  refine br_dec (fun hn => ?_) (fun hn => ?_)
  · refine st_pt h hk (Nat.le_of_ble_eq_true rfl) rfl fun w hs => ?_
    refine ld_pt hs (set_get hk) rfl ?_
    simp only [nn_some, add_mk, Nat.zero_add, Nat.add_zero, Nat.reduceAdd, Nat.reduceMul, Option.isNone_some, Option.isNone_none, br_true, br_false, Bool.not_true, Bool.not_false, xI_eq, xB_eq, xS_eq, xP_eq, xL_eq, x0_eq, x2_eq, x3_eq, chk_eq, true_and, and_true, List.set_cons_zero, List.set_cons_succ, List.eraseIdx_cons_zero, List.eraseIdx_cons_succ] at hs ⊢
    exact bad (by simp [rawT, hn]) w hs
  refine ld_pt h hk rfl ?_
  simp only [nn_some, add_mk, Nat.zero_add, Nat.add_zero, Nat.reduceAdd, Nat.reduceMul, Option.isNone_some, Option.isNone_none, br_true, br_false, Bool.not_true, Bool.not_false, xI_eq, xB_eq, xS_eq, xP_eq, xL_eq, x0_eq, x2_eq, x3_eq, chk_eq, true_and, and_true, List.set_cons_zero, List.set_cons_succ, List.eraseIdx_cons_zero, List.eraseIdx_cons_succ]
  refine st_pt h hk (Nat.le_of_ble_eq_true rfl) rfl fun w hs => ?_
  refine ld_pt hs (set_get hk) rfl ?_
  simp only [nn_some, add_mk, Nat.zero_add, Nat.add_zero, Nat.reduceAdd, Nat.reduceMul, Option.isNone_some, Option.isNone_none, br_true, br_false, Bool.not_true, Bool.not_false, xI_eq, xB_eq, xS_eq, xP_eq, xL_eq, x0_eq, x2_eq, x3_eq, chk_eq, true_and, and_true, List.set_cons_zero, List.set_cons_succ, List.eraseIdx_cons_zero, List.eraseIdx_cons_succ] at hs ⊢
  refine br_dec (fun hgt => ?_) (fun hgt => ?_)
  · have : decide (n > (s.size : Int)) = true := decide_eq_true hgt
    rw [this] at hs
    exact bad (by simp [rawT]; omega) w hs
  · have e : decide (n > (s.size : Int)) = false := decide_eq_false hgt
    rw [e] at hs
    have hb : rawT s t n = false := by
      unfold rawT
      rw [ht, decide_eq_false (by omega)]; rfl
    have := hK
    unfold rawS rawV at this
    rw [if_neg (by rw [hb]; exact Bool.false_ne_true), if_neg (by rw [hb]; exact Bool.false_ne_true), hb] at this
    unfold tape_Reader_Raw.j1
    simp only [nn_some, add_mk, Nat.zero_add, Nat.add_zero, Nat.reduceAdd, Nat.reduceMul, Option.isNone_some, Option.isNone_none, br_true, br_false, Bool.not_true, Bool.not_false, xI_eq, xB_eq, xS_eq, xP_eq, xL_eq, x0_eq, x2_eq, x3_eq, chk_eq, true_and, and_true, List.set_cons_zero, List.set_cons_succ, List.eraseIdx_cons_zero, List.eraseIdx_cons_succ]
    refine ld_pt hs (set_get hk) rfl ?_
    unfold slStr
    simp only [nn_some, add_mk, Nat.zero_add, Nat.add_zero, Nat.reduceAdd, Nat.reduceMul, Option.isNone_some, Option.isNone_none, br_true, br_false, Bool.not_true, Bool.not_false, xI_eq, xB_eq, xS_eq, xP_eq, xL_eq, x0_eq, x2_eq, x3_eq, chk_eq, true_and, and_true, List.set_cons_zero, List.set_cons_succ, List.eraseIdx_cons_zero, List.eraseIdx_cons_succ]
    refine ⟨by omega, ?_⟩
    refine ld_pt hs (set_get hk) rfl ?_
    simp only [nn_some, add_mk, Nat.zero_add, Nat.add_zero, Nat.reduceAdd, Nat.reduceMul, Option.isNone_some, Option.isNone_none, br_true, br_false, Bool.not_true, Bool.not_false, xI_eq, xB_eq, xS_eq, xP_eq, xL_eq, x0_eq, x2_eq, x3_eq, chk_eq, true_and, and_true, List.set_cons_zero, List.set_cons_succ, List.eraseIdx_cons_zero, List.eraseIdx_cons_succ]
    refine ⟨by omega, ?_⟩
    refine st_pt hs (set_get hk) (Nat.le_of_ble_eq_true rfl) rfl fun w hs => ?_
    rw [List.set_set] at hs
    exact this w hs

/-- A number's bytes, the lowest first. -/
def valL : List UInt8 → Nat
  | [] => 0
  | c :: r => c.toNat + 256 * valL r

theorem valL_lt : ∀ l : List UInt8, valL l < 256 ^ l.length
  | [] => by simp [valL]
  | c :: r => by
    have := valL_lt r
    have hc := c.toNat_lt
    simp only [valL, List.length_cons, Nat.pow_succ]
    omega

theorem valL_append : ∀ (l : List UInt8) (c : UInt8), valL (l ++ [c]) = valL l + c.toNat * 256 ^ l.length
  | [], c => by simp [valL]
  | d :: r, c => by
    simp only [List.cons_append, valL, valL_append r c, List.length_cons, Nat.pow_succ]
    rw [Nat.mul_add, Nat.add_assoc]
    congr 2
    rw [Nat.mul_comm 256, Nat.mul_assoc]

theorem ofInt_wrap64 (z : Int) : BitVec.ofInt 64 (IntKind.i64.wrap z) = BitVec.ofInt 64 z := by
  apply BitVec.eq_of_toNat_eq
  simp only [BitVec.toNat_ofInt]
  simp [IntKind.wrap, IntKind.bits, IntKind.signed]
  split <;> omega

theorem or_step {A j : Nat} {c : UInt8} (hj : j < 8) (hA : A < 256 ^ j) : isum .i64 .or (IntKind.i64.wrap A) (shl .i64 (IntKind.i64.wrap (c.toNat : Int)) (8 * (j : Int))) = IntKind.i64.wrap ((A + c.toNat * 256 ^ j : Nat) : Int) := by
  have hc := c.toNat_lt
  have hpow : 256 ^ j = 2 ^ (8 * j) := by rw [show (256 : Nat) = 2 ^ 8 from rfl, ← Nat.pow_mul]
  have hp64 : c.toNat * 2 ^ (8 * j) < 2 ^ 64 := by
    have h1 : c.toNat * 2 ^ (8 * j) < 2 ^ 8 * 2 ^ (8 * j) := Nat.mul_lt_mul_of_pos_right (by exact hc) (Nat.pow_pos (by decide))
    rw [← Nat.pow_add] at h1
    exact Nat.lt_of_lt_of_le h1 (Nat.pow_le_pow_right (by decide) (by omega))
  have hA64 : A < 2 ^ 64 := by
    rw [hpow] at hA
    exact Nat.lt_of_lt_of_le hA (Nat.pow_le_pow_right (by decide) (by omega))
  have ew : IntKind.i64.wrap (c.toNat : Int) = (c.toNat : Int) := wrap_id (by omega)
  have esh : shl .i64 (c.toNat : Int) (8 * (j : Int)) = IntKind.i64.wrap ((c.toNat * 2 ^ (8 * j) : Nat) : Int) := by
    unfold shl
    have h1 : (8 * (j : Int)).toNat = 8 * j := by omega
    have h2 : min (8 * j) IntKind.i64.bits = 8 * j := by show min (8 * j) 64 = _; omega
    rw [h1, h2]
    congr 1
  rw [ew, esh]
  show IntKind.i64.wrap (((BitVec.ofInt 64 (IntKind.i64.wrap A) ||| BitVec.ofInt 64 (IntKind.i64.wrap ((c.toNat * 2 ^ (8 * j) : Nat) : Int))).toNat : Nat) : Int) = _
  rw [ofInt_wrap64, ofInt_wrap64, BitVec.toNat_or]
  have t1 : (BitVec.ofInt 64 (A : Int)).toNat = A := by simp only [BitVec.toNat_ofInt]; omega
  have t2 : (BitVec.ofInt 64 ((c.toNat * 2 ^ (8 * j) : Nat) : Int)).toNat = c.toNat * 2 ^ (8 * j) := by
    generalize c.toNat * 2 ^ (8 * j) = z at *
    simp only [BitVec.toNat_ofInt]; omega
  rw [t1, t2, hpow]
  congr 2
  rw [Nat.or_comm, ← Nat.shiftLeft_eq, ← Nat.shiftLeft_add_eq_or_of_lt (by rw [← hpow]; exact hA), Nat.add_comm]

def numL (l : List UInt8) : Int := IntKind.i64.wrap (valL l : Int)

theorem Int_spec {r : Nat} {s : ByteArray} {t : Bool} {n : Int} {K : VK} (h : St W w L) (hk : L[k]? = some (rdr r s t))
    (hK : ∀ w', St W w' (L.set k (rdr r (rawS s t (min2 (max2 n 1) 8)) (rawT s t (min2 (max2 n 1) 8)))) → K (.int .i64 (numL (rawV s t (min2 (max2 n 1) 8)).data.toList)) w') : tape_Reader_Int (some ⟨r, 0, none⟩) n K w := by
  have hm : 1 ≤ min2 (max2 n 1) 8 ∧ min2 (max2 n 1) 8 ≤ 8 := by unfold min2 max2; split <;> split <;> omega
  unfold tape_Reader_Int
  generalize min2 (max2 n 1) 8 = m at *
  refine Raw_spec h hk fun w hs => ?_
  simp only [nn_some, add_mk, Nat.zero_add, Nat.add_zero, Nat.reduceAdd, Nat.reduceMul, Option.isNone_some, Option.isNone_none, br_true, br_false, Bool.not_true, Bool.not_false, xI_eq, xB_eq, xS_eq, xP_eq, xL_eq, x0_eq, x2_eq, x3_eq, chk_eq, true_and, and_true, List.set_cons_zero, List.set_cons_succ, List.eraseIdx_cons_zero, List.eraseIdx_cons_succ]
  have hv8 : (rawV s t m).size ≤ 8 := by
    unfold rawV
    split
    · exact Nat.zero_le _
    · rw [strEx]; omega
  have hK' := hK
  generalize rawV s t m = v at *
  refine s2b_of hs fun q c w hs => ?_
  have hlen : v.data.toList.length = v.size := rfl
  refine ⟨fun us w' => ∃ j : Nat, us = [.int .i64 0, .int .i64 (numL (v.data.toList.take j)), .slice (some ⟨q, 0, none⟩) v.size c, .int .i64 v.size, .int .i64 j] ∧ j ≤ v.size ∧ isW w w',
    fun us _ => match us with | [_, _, _, _, .int _ j] => v.size - j.toNat | _ => 0, ⟨0, rfl, Nat.zero_le _, rfl⟩, ?_⟩
  rintro n2 n3 sb1 sn1 sc1 n4 n5 w2 ⟨j, he, hj, hw⟩
  obtain rfl : w2 = w := hw
  cases he
  generalize hb : decide ((j : Int) < (v.size : Int)) = b
  cases b
  · have hge := of_decide_eq_false hb
    rw [br_false]
    rw [List.take_of_length_le (by omega)]
    exact hK' _ hs.drop
  · have hlt := of_decide_eq_true hb
    rw [br_true]
    have hjl : j < v.data.toList.length := by omega
    refine ixs_own (k := 0) hs rfl (by omega) fun r' hr => ?_
    cases hr
    refine ld_own (k := 0) hs rfl (v := u8v (v.data.toList[j])) (by rw [Int.toNat_natCast, Nat.mul_one, List.getElem?_map, List.getElem?_eq_getElem hjl]; rfl) ?_
    unfold u8v
    simp only [nn_some, add_mk, Nat.zero_add, Nat.add_zero, Nat.reduceAdd, Nat.reduceMul, Option.isNone_some, Option.isNone_none, br_true, br_false, Bool.not_true, Bool.not_false, xI_eq, xB_eq, xS_eq, xP_eq, xL_eq, x0_eq, x2_eq, x3_eq, chk_eq, true_and, and_true, List.set_cons_zero, List.set_cons_succ, List.eraseIdx_cons_zero, List.eraseIdx_cons_succ]
    have e8 : IntKind.i64.wrap (8 * (j : Int)) = 8 * (j : Int) := wrap_id (by omega)
    have e5 : IntKind.i64.wrap ((j : Int) + 1) = ((j + 1 : Nat) : Int) := by rw [wrap_id (by omega)]; omega
    rw [e8, e5]
    refine ⟨by omega, ?_⟩
    have hvl := valL_lt (v.data.toList.take j)
    have htl : (v.data.toList.take j).length = j := by rw [List.length_take]; omega
    rw [htl] at hvl
    have e6 : isum .i64 .or (numL (v.data.toList.take j)) (shl .i64 (IntKind.i64.wrap ((v.data.toList[j]).toNat : Int)) (8 * (j : Int))) = numL (v.data.toList.take (j + 1)) := by
      unfold numL
      rw [or_step (by omega) hvl, List.take_succ_eq_append_getElem hjl, valL_append, htl]
    rw [e6]
    exact ⟨⟨j + 1, rfl, by omega, rfl⟩, by omega⟩

/-! ### Numbers at a sector's ends -/

def numOf (s : ByteArray) : Int := if 1 ≤ numL s.data.toList ∧ numL s.data.toList ≤ 1152921504606846976 then numL s.data.toList else 0

theorem u64w {n : Int} (h : 0 ≤ n ∧ n < 18446744073709551616) : IntKind.u64.wrap n = n := by
  simp [IntKind.wrap, IntKind.bits, IntKind.signed]; omega

theorem Back_spec {s : ByteArray} {K : VK} (hs : s.size ≤ 8) (hK : K (.int .i64 (numL s.data.toList)) w) : bondstoreref03_Back s K w := by
  unfold bondstoreref03_Back
  have hlen : s.data.toList.length = s.size := rfl
  have e1 : IntKind.i64.wrap ((s.size : Int) - 1) = (s.size : Int) - 1 := wrap_id (by omega)
  rw [e1]
  refine ⟨fun us w' => ∃ j : Nat, us = [.int .i64 0, .int .u64 (valL (s.data.toList.drop j) : Int), .int .i64 ((j : Int) - 1)] ∧ j ≤ s.size ∧ isW w w',
    fun us _ => match us with | [_, _, .int _ j] => (j + 1).toNat | _ => 0, ⟨s.size, ?_, Nat.le_refl _, rfl⟩, ?_⟩
  · rw [List.drop_of_length_le (by omega)]; rfl
  rintro n1 n2 n3 w2 ⟨j, he, hj, hw⟩
  obtain rfl : w2 = w := hw
  cases he
  generalize hb : decide ((j : Int) - 1 ≥ 0) = b
  cases b
  · have hge := of_decide_eq_false hb
    rw [br_false]
    have hj0 : j = 0 := by omega
    subst hj0
    exact hK
  · have hlt := of_decide_eq_true hb
    rw [br_true]
    obtain ⟨i, rfl⟩ : ∃ i, j = i + 1 := ⟨j - 1, by omega⟩
    have hil : i < s.data.toList.length := by omega
    refine ⟨s.data.toList[i], ⟨by omega, by rw [show (((i + 1 : Nat) : Int) - 1).toNat = i from by omega]; exact List.getElem?_eq_getElem hil⟩, ?_⟩
    have hd : s.data.toList.drop i = s.data.toList[i] :: s.data.toList.drop (i + 1) := List.drop_eq_getElem_cons hil
    have hv := valL_lt (s.data.toList.drop i)
    have hv1 : valL (s.data.toList.drop i) < 256 ^ 8 := Nat.lt_of_lt_of_le hv (Nat.pow_le_pow_right (by decide) (by rw [List.length_drop]; omega))
    have e2 : IntKind.u64.wrap (IntKind.u64.wrap ((valL (s.data.toList.drop (i + 1)) : Int) * 256) + IntKind.u64.wrap ((s.data.toList[i]).toNat : Int)) = (valL (s.data.toList.drop i) : Int) := by
      have hvs : valL (s.data.toList.drop i) = (s.data.toList[i]).toNat + 256 * valL (s.data.toList.drop (i + 1)) := by rw [hd]; rfl
      have h256 : (256 : Nat) ^ 8 = 18446744073709551616 := rfl
      rw [hvs] at hv1 ⊢
      rw [h256] at hv1
      have hcl : (s.data.toList[i]).toNat < 256 := (s.data.toList[i]).toNat_lt
      generalize (s.data.toList[i]).toNat = x at *
      generalize valL (s.data.toList.drop (i + 1)) = y at *
      rw [u64w (n := (y : Int) * 256) (by omega), u64w (n := (x : Int)) (by omega), u64w (by omega)]
      omega
    have e3 : IntKind.i64.wrap (((i + 1 : Nat) : Int) - 1 - 1) = (i : Int) - 1 := by rw [wrap_id (by omega)]; omega
    dsimp only
    rw [e2, e3]
    exact ⟨⟨i, rfl, by omega, rfl⟩, by omega⟩

theorem Number_spec {s : ByteArray} {K : VK} (hs : s.size ≤ 8) (hK : K (.int .i64 (numOf s)) w) : bondstoreref05_Number s K w := by
  unfold bondstoreref05_Number
  refine Back_spec hs ?_
  simp only [nn_some, add_mk, Nat.zero_add, Nat.add_zero, Nat.reduceAdd, Nat.reduceMul, Option.isNone_some, Option.isNone_none, br_true, br_false, Bool.not_true, Bool.not_false, xI_eq, xB_eq, xS_eq, xP_eq, xL_eq, x0_eq, x2_eq, x3_eq, chk_eq, true_and, and_true, List.set_cons_zero, List.set_cons_succ, List.eraseIdx_cons_zero, List.eraseIdx_cons_succ]
  unfold numOf at hK
  refine br_dec (fun h1 => ?_) (fun h1 => ?_)
  · rw [if_neg (by omega)] at hK; exact hK
  refine br_dec (fun h2 => ?_) (fun h2 => ?_)
  · rw [if_neg (by omega)] at hK; exact hK
  · rw [if_pos (by omega)] at hK; exact hK

def hd8 (s : ByteArray) : ByteArray := s.extract 0 8
def tl8 (s : ByteArray) : ByteArray := s.extract (s.size - 8) s.size

theorem ends_spec {s : ByteArray} {K : VK} (h : St W w L) (hs8 : 8 ≤ s.size) (hsz : s.size < 1099511627776) (hK : ∀ w', St W w' L → K (.agg ⟨[.int .i64 (numOf (hd8 s)), .int .i64 (numOf (tl8 s))]⟩) w') : stamp_ends s K w := by
  unfold stamp_ends
  refine mk_of h fun r1 w hs => ?_
  refine mk_of hs fun r2 w hs => ?_
  refine tick_of hs fun w hs => ?_
  unfold slStr
  simp only [nn_some, add_mk, Nat.zero_add, Nat.add_zero, Nat.reduceAdd, Nat.reduceMul, Option.isNone_some, Option.isNone_none, br_true, br_false, Bool.not_true, Bool.not_false, xI_eq, xB_eq, xS_eq, xP_eq, xL_eq, x0_eq, x2_eq, x3_eq, chk_eq, true_and, and_true, List.set_cons_zero, List.set_cons_succ, List.eraseIdx_cons_zero, List.eraseIdx_cons_succ]
  have e1 : IntKind.i64.wrap ((s.size : Int) - 8) = (s.size : Int) - 8 := wrap_id (by omega)
  rw [e1]
  refine ⟨by omega, by omega, ?_⟩
  have eh : s.extract 0 (8 : Int).toNat = hd8 s := rfl
  have et : s.extract ((s.size : Int) - 8).toNat s.size = tl8 s := by unfold tl8; congr 1; omega
  rw [eh, et]
  have h8 : (hd8 s).size = 8 := by unfold hd8; rw [strEx]; omega
  have t8 : (tl8 s).size = 8 := by unfold tl8; rw [strEx]; omega
  refine ⟨fun us w' => ∃ j : Nat, us = [.pointer (some ⟨r1, 0, none⟩), .pointer (some ⟨r2, 0, none⟩), .agg ⟨[.string (hd8 s), .string (tl8 s)]⟩, .int .i64 j] ∧ j ≤ 2 ∧
      St W w' (pt r2 [.int .i64 (if 0 < j then numOf (hd8 s) else 0), .int .i64 (if 1 < j then numOf (tl8 s) else 0)] :: pt r1 [.int .i64 0, .int .i64 0] :: L),
    fun us _ => match us with | [_, _, _, .int _ j] => 2 - j.toNat | _ => 0, ⟨0, rfl, Nat.zero_le _, hs⟩, ?_⟩
  rintro a1 a2 cs1 n1 w2 ⟨j, he, hj, hs⟩
  cases he
  refine br_of (fun h0 => ?_) (fun h0 => ?_)
  · have hj2 : j < 2 := by have := of_decide_eq_true h0; omega
    have e5 : IntKind.i64.wrap ((j : Int) + 1) = ((j + 1 : Nat) : Int) := by rw [wrap_id (by omega)]; omega
    rw [e5]
    obtain ⟨p, hp, hp8⟩ : ∃ p, ([Value.string (hd8 s), .string (tl8 s)] : List Value)[(j : Int).toNat]? = some (.string p) ∧ p.size = 8 ∧ (j = 0 → p = hd8 s) ∧ (j = 1 → p = tl8 s) := by
      match j, hj2 with
      | 0, _ => exact ⟨hd8 s, rfl, h8, fun _ => rfl, fun hh => by omega⟩
      | 1, _ => exact ⟨tl8 s, rfl, t8, fun hh => by omega, fun _ => rfl⟩
    refine ⟨.string p, ⟨by omega, by omega, hp⟩, ?_⟩
    simp only [nn_some, add_mk, Nat.zero_add, Nat.add_zero, Nat.reduceAdd, Nat.reduceMul, Option.isNone_some, Option.isNone_none, br_true, br_false, Bool.not_true, Bool.not_false, xI_eq, xB_eq, xS_eq, xP_eq, xL_eq, x0_eq, x2_eq, x3_eq, chk_eq, true_and, and_true, List.set_cons_zero, List.set_cons_succ, List.eraseIdx_cons_zero, List.eraseIdx_cons_succ]
    refine tRead_spec hs fun q w hs => ?_
    simp only [nn_some, add_mk, Nat.zero_add, Nat.add_zero, Nat.reduceAdd, Nat.reduceMul, Option.isNone_some, Option.isNone_none, br_true, br_false, Bool.not_true, Bool.not_false, xI_eq, xB_eq, xS_eq, xP_eq, xL_eq, x0_eq, x2_eq, x3_eq, chk_eq, true_and, and_true, List.set_cons_zero, List.set_cons_succ, List.eraseIdx_cons_zero, List.eraseIdx_cons_succ]
    refine Int_spec (k := 0) hs rfl fun w hs => ?_
    have em : min2 (max2 8 1) 8 = 8 := rfl
    have ev : rawV p false (min2 (max2 8 1) 8) = p := by
      rw [em]
      unfold rawV
      have : rawT p false 8 = false := by unfold rawT; rw [hp8.1]; rfl
      rw [if_neg (by rw [this]; exact Bool.false_ne_true)]
      have : (8 : Int).toNat = p.size := by rw [hp8.1]; rfl
      rw [this]; exact ByteArray.extract_zero_size
    rw [ev]
    simp only [nn_some, add_mk, Nat.zero_add, Nat.add_zero, Nat.reduceAdd, Nat.reduceMul, Option.isNone_some, Option.isNone_none, br_true, br_false, Bool.not_true, Bool.not_false, xI_eq, xB_eq, xS_eq, xP_eq, xL_eq, x0_eq, x2_eq, x3_eq, chk_eq, true_and, and_true, List.set_cons_zero, List.set_cons_succ, List.eraseIdx_cons_zero, List.eraseIdx_cons_succ] at hs ⊢
    have hs := hs.drop
    have fin : ∀ x w', x = numOf p → St W w' (pt r2 ([.int .i64 (if 0 < j then numOf (hd8 s) else 0), .int .i64 (if 1 < j then numOf (tl8 s) else 0)].set j (.int .i64 x)) :: pt r1 [.int .i64 0, .int .i64 0] :: L) →
        St W w' (pt r2 [.int .i64 (if 0 < j + 1 then numOf (hd8 s) else 0), .int .i64 (if 1 < j + 1 then numOf (tl8 s) else 0)] :: pt r1 [.int .i64 0, .int .i64 0] :: L) := fun x w' hx hs => by
      subst hx
      match j, hj2, hp8, hs with
      | 0, _, hp8, hs => rw [hp8.2.1 rfl] at hs; simpa using hs
      | 1, _, hp8, hs => rw [hp8.2.2 rfl] at hs; simpa using hs
    have zero : numOf p = 0 → ∀ w', St W w' (pt r2 [.int .i64 (if 0 < j then numOf (hd8 s) else 0), .int .i64 (if 1 < j then numOf (tl8 s) else 0)] :: pt r1 [.int .i64 0, .int .i64 0] :: L) →
        St W w' (pt r2 [.int .i64 (if 0 < j + 1 then numOf (hd8 s) else 0), .int .i64 (if 1 < j + 1 then numOf (tl8 s) else 0)] :: pt r1 [.int .i64 0, .int .i64 0] :: L) := fun hz w' hs => by
      refine fin 0 w' hz.symm ?_
      match j, hj2, hs with
      | 0, _, hs => simpa using hs
      | 1, _, hs => simpa using hs
    refine br_dec (fun h1 => ?_) (fun h1 => ?_)
    · refine br_dec (fun h2 => ?_) (fun h2 => ?_)
      · refine ⟨by omega, ?_⟩
        refine st_pt (k := 0) hs rfl (by simp; omega) rfl fun w hs => ?_
        simp only [nn_some, add_mk, Nat.zero_add, Nat.add_zero, Nat.reduceAdd, Nat.reduceMul, Option.isNone_some, Option.isNone_none, br_true, br_false, Bool.not_true, Bool.not_false, xI_eq, xB_eq, xS_eq, xP_eq, xL_eq, x0_eq, x2_eq, x3_eq, chk_eq, true_and, and_true, List.set_cons_zero, List.set_cons_succ, List.eraseIdx_cons_zero, List.eraseIdx_cons_succ] at hs
        rw [Int.toNat_natCast, Nat.mul_one] at hs
        refine ⟨⟨j + 1, rfl, by omega, fin _ w ?_ hs⟩, by omega⟩
        unfold numOf
        rw [if_pos (by omega)]
      · exact ⟨⟨j + 1, rfl, by omega, zero (by unfold numOf; rw [if_neg (by omega)]) w hs⟩, by omega⟩
    · exact ⟨⟨j + 1, rfl, by omega, zero (by unfold numOf; rw [if_neg (by omega)]) w hs⟩, by omega⟩
  · have hj2 : j = 2 := by have := of_decide_eq_false h0; omega
    subst hj2
    have hs : St W w2 (pt r2 [.int .i64 (numOf (hd8 s)), .int .i64 (numOf (tl8 s))] :: pt r1 [.int .i64 0, .int .i64 0] :: L) := hs
    refine ldN_pt (k := 0) (xs := [.int .i64 (numOf (hd8 s)), .int .i64 (numOf (tl8 s))]) hs rfl rfl (fun i v hi => by rw [Nat.zero_add]; exact hi) ?_
    refine ⟨rfl, stN_pt (k := 1) hs rfl (Nat.le_of_ble_eq_true rfl) (by simp [Value.oneCell']) fun w hs => ?_⟩
    rw [over_all (by simp)] at hs
    simp only [nn_some, add_mk, Nat.zero_add, Nat.add_zero, Nat.reduceAdd, Nat.reduceMul, Option.isNone_some, Option.isNone_none, br_true, br_false, Bool.not_true, Bool.not_false, xI_eq, xB_eq, xS_eq, xP_eq, xL_eq, x0_eq, x2_eq, x3_eq, chk_eq, true_and, and_true, List.set_cons_zero, List.set_cons_succ, List.eraseIdx_cons_zero, List.eraseIdx_cons_succ] at hs
    refine ldN_pt (k := 1) (xs := [.int .i64 (numOf (hd8 s)), .int .i64 (numOf (tl8 s))]) hs rfl rfl (fun i v hi => by rw [Nat.zero_add]; exact hi) ?_
    exact hK w hs.drop.drop

/-- The greatest number at an end of one of the first sectors. -/
def grTo (D : Disk) : Nat → Int
  | 0 => 0
  | j + 1 => max2 (max2 (grTo D j) (numOf (hd8 (D.read (j : Int)).1))) (numOf (tl8 (D.read (j : Int)).1))

theorem read_size {D : Disk} (h : D.Ok) {i : Int} (hi : D.is i) : (D.read i).1.size = 128 := by
  unfold Disk.read
  rw [if_pos hi]
  unfold Disk.now
  have hlt : i.toNat < D.safe.length := by have := hi.1; have := hi.2; omega
  cases hl : Disk.last D.later i with
  | none =>
    rw [Option.getD_none, List.getD_eq_getElem?_getD, List.getElem?_eq_getElem hlt, Option.getD_some]
    exact h.safe _ (List.getElem_mem hlt)
  | some x =>
    unfold Disk.last at hl
    rw [Option.map_eq_some_iff] at hl
    obtain ⟨p, hp, rfl⟩ := hl
    exact (h.later p (List.mem_reverse.1 (List.mem_of_find?_eq_some hp))).1

theorem Greatest_spec {d : Nat} {D : Disk} {K : VK} (h : St W w L) (hk : L[k]? = some (disk d D)) (hok : D.Ok) (hK : ∀ w', St W w' L → K (.int .i64 (grTo D D.safe.length)) w') : stamp_Greatest (some ⟨d, 0, none⟩) K w := by
  have hfew := hok.few
  unfold stamp_Greatest
  refine Disk_Sectors_spec h hk ?_
  simp only [nn_some, add_mk, Nat.zero_add, Nat.add_zero, Nat.reduceAdd, Nat.reduceMul, Option.isNone_some, Option.isNone_none, br_true, br_false, Bool.not_true, Bool.not_false, xI_eq, xB_eq, xS_eq, xP_eq, xL_eq, x0_eq, x2_eq, x3_eq, chk_eq, true_and, and_true, List.set_cons_zero, List.set_cons_succ, List.eraseIdx_cons_zero, List.eraseIdx_cons_succ]
  refine ⟨fun us w' => ∃ j : Nat, us = [.int .i64 0, .int .i64 (grTo D j), .int .i64 D.safe.length, .int .i64 j] ∧ j ≤ D.safe.length ∧ St W w' L,
    fun us _ => match us with | [_, _, _, .int _ j] => D.safe.length - j.toNat | _ => 0, ⟨0, rfl, Nat.zero_le _, h⟩, ?_⟩
  rintro n2 n3 n4 n5 w2 ⟨j, he, hj, hs⟩
  cases he
  refine br_dec (fun hlt => ?_) (fun hge => ?_)
  · have hi : D.is (j : Int) := ⟨by omega, hlt⟩
    have hsz := read_size hok hi
    have e5 : IntKind.i64.wrap ((j : Int) + 1) = ((j + 1 : Nat) : Int) := by rw [wrap_id (by omega)]; omega
    refine Disk_Read_spec hs hk hok ?_
    simp only [nn_some, add_mk, Nat.zero_add, Nat.add_zero, Nat.reduceAdd, Nat.reduceMul, Option.isNone_some, Option.isNone_none, br_true, br_false, Bool.not_true, Bool.not_false, xI_eq, xB_eq, xS_eq, xP_eq, xL_eq, x0_eq, x2_eq, x3_eq, chk_eq, true_and, and_true, List.set_cons_zero, List.set_cons_succ, List.eraseIdx_cons_zero, List.eraseIdx_cons_succ]
    refine ends_spec hs (by omega) (by omega) fun w hs => ?_
    simp only [xA_eq, List.length_cons, List.length_nil, Nat.zero_add, Nat.reduceAdd, true_and]
    refine mk_of hs fun r w hs => ?_
    refine ⟨trivial, stN_pt (k := 0) hs rfl (Nat.le_of_ble_eq_true rfl) (by simp [Value.oneCell']) fun w hs => ?_⟩
    rw [over_all (by simp)] at hs
    simp only [nn_some, add_mk, Nat.zero_add, Nat.add_zero, Nat.reduceAdd, Nat.reduceMul, Option.isNone_some, Option.isNone_none, br_true, br_false, Bool.not_true, Bool.not_false, xI_eq, xB_eq, xS_eq, xP_eq, xL_eq, x0_eq, x2_eq, x3_eq, chk_eq, true_and, and_true, List.set_cons_zero, List.set_cons_succ, List.eraseIdx_cons_zero, List.eraseIdx_cons_succ] at hs ⊢
    refine ⟨by decide, ?_⟩
    refine ld_pt (k := 0) hs rfl rfl ?_
    simp only [nn_some, add_mk, Nat.zero_add, Nat.add_zero, Nat.reduceAdd, Nat.reduceMul, Option.isNone_some, Option.isNone_none, br_true, br_false, Bool.not_true, Bool.not_false, xI_eq, xB_eq, xS_eq, xP_eq, xL_eq, x0_eq, x2_eq, x3_eq, chk_eq, true_and, and_true, List.set_cons_zero, List.set_cons_succ, List.eraseIdx_cons_zero, List.eraseIdx_cons_succ]
    refine ⟨by decide, ?_⟩
    refine ld_pt (k := 0) hs rfl rfl ?_
    simp only [nn_some, add_mk, Nat.zero_add, Nat.add_zero, Nat.reduceAdd, Nat.reduceMul, Option.isNone_some, Option.isNone_none, br_true, br_false, Bool.not_true, Bool.not_false, xI_eq, xB_eq, xS_eq, xP_eq, xL_eq, x0_eq, x2_eq, x3_eq, chk_eq, true_and, and_true, List.set_cons_zero, List.set_cons_succ, List.eraseIdx_cons_zero, List.eraseIdx_cons_succ]
    rw [e5]
    exact ⟨⟨j + 1, rfl, by omega, hs.drop⟩, by omega⟩
  · have : j = D.safe.length := by omega
    subst this
    exact hK _ hs
end
end Go.Sep

/- Layer 5: a sector is read. -/
namespace Go.Sep
open Go.Den Go.RowKit Go.Prog Go.Plat
set_option linter.unusedSimpArgs false
set_option linter.unusedVariables false

theorem bs_extract0 (l : List UInt8) (n : Nat) : (bs l).extract 0 n = bs (l.take n) := by
  apply bytes_ext
  rw [extract_toList, List.drop_zero, Nat.sub_zero]; rfl
theorem bs_extractN (l : List UInt8) (n : Nat) : (bs l).extract n (bs l).size = bs (l.drop n) := by
  apply bytes_ext
  rw [extract_toList, bs_size]
  show (l.drop n).take (l.length - n) = l.drop n
  rw [List.take_of_length_le (by rw [List.length_drop]; omega)]
theorem bs_append (a b : List UInt8) : bs a ++ bs b = bs (a ++ b) := by
  apply bytes_ext
  rw [ByteArray.data_append, Array.toList_append]; rfl
theorem bs_inj {a b : List UInt8} : bs a = bs b ↔ a = b := by
  constructor
  · intro h; have := congrArg (fun x => x.data.toList) h; exact this
  · intro h; rw [h]
theorem empty_bs : ByteArray.empty = bs [] := rfl

section
variable {W w : World} {L : List HP} {k : Nat}

/-! ### Texts that are trimmed -/

theorem trimRight_spec {l : List UInt8} {K : VK} (hl : l.length < 1099511627776) (hK : ∀ m, m ≤ l.length → (∀ j (h : j < l.length), m ≤ j → l[j] = 0) → (m = 0 ∨ ∃ h : m - 1 < l.length, l[m - 1] ≠ 0) → K (.string (bs (l.take m))) w) : strings_trimRightByte (bs l) 0 K w := by
  unfold strings_trimRightByte
  refine ⟨fun us w' => ∃ m : Nat, us = [.string (bs (l.take m)), .string .empty] ∧ m ≤ l.length ∧ (∀ j (h : j < l.length), m ≤ j → l[j] = 0) ∧ isW w w', fun us _ => match us with | [.string s, _] => s.size | _ => 0,
    ⟨l.length, by rw [List.take_length], Nat.le_refl _, fun j h hj => by omega, rfl⟩, ?_⟩
  rintro s2 s3 w2 ⟨m, he, hm, hz, hw⟩
  obtain rfl : w2 = w := hw
  cases he
  have hsz : (bs (l.take m)).size = m := by rw [bs_size, List.length_take]; omega
  rw [hsz]
  refine br_dec (fun hpos => ?_) (fun hneg => ?_)
  · have hm1 : m - 1 < l.length := by omega
    have ew : IntKind.i64.wrap ((m : Int) - 1) = ((m - 1 : Nat) : Int) := by rw [wrap_id (by omega)]; omega
    rw [ew]
    refine ⟨l[m - 1], ⟨by omega, ?_⟩, ?_⟩
    · rw [Int.toNat_natCast]
      show (l.take m)[m - 1]? = _
      rw [List.getElem?_take_of_lt (by omega), List.getElem?_eq_getElem hm1]
    refine br_eq (fun h0 => ?_) (fun h0 => ?_)
    · have hc : l[m - 1] = 0 := by
        apply UInt8.toNat_inj.1
        show _ = 0
        omega
      unfold slStr
      refine ⟨⟨by omega, by rw [hsz]; omega⟩, ?_⟩
      rw [Int.toNat_natCast, bs_extract0, List.take_take, show min (m - 1) m = m - 1 from by omega]
      refine ⟨⟨m - 1, rfl, by omega, fun j hj hmj => ?_, rfl⟩, ?_⟩
      · by_cases hjm : m ≤ j
        · exact hz j hj hjm
        · have : j = m - 1 := by omega
          subst this; exact hc
      · dsimp only
        rw [bs_size, List.length_take, bs_size, List.length_take]; omega
    · exact hK m hm hz (.inr ⟨hm1, fun hc => h0 (by rw [hc]; rfl)⟩)
  · exact hK m hm hz (.inl (by omega))

theorem trimLeft_spec {l : List UInt8} {K : VK} (hl : l.length < 1099511627776) (hK : ∀ m, m ≤ l.length → (∀ j (h : j < l.length), j < m → l[j] = 0) → (m = l.length ∨ ∃ h : m < l.length, l[m] ≠ 0) → K (.string (bs (l.drop m))) w) : strings_trimLeftByte (bs l) 0 K w := by
  unfold strings_trimLeftByte
  refine ⟨fun us w' => ∃ m : Nat, us = [.string (bs (l.drop m)), .string .empty] ∧ m ≤ l.length ∧ (∀ j (h : j < l.length), j < m → l[j] = 0) ∧ isW w w', fun us _ => match us with | [.string s, _] => s.size | _ => 0,
    ⟨0, rfl, Nat.zero_le _, fun j h hj => by omega, rfl⟩, ?_⟩
  rintro s2 s3 w2 ⟨m, he, hm, hz, hw⟩
  obtain rfl : w2 = w := hw
  cases he
  have hsz : (bs (l.drop m)).size = l.length - m := by rw [bs_size, List.length_drop]
  refine br_dec (fun hpos => ?_) (fun hneg => ?_)
  · rw [hsz] at hpos
    have hm1 : m < l.length := by omega
    refine ⟨l[m], ⟨by omega, ?_⟩, ?_⟩
    · show (l.drop m)[0]? = _
      rw [List.getElem?_drop, Nat.add_zero, List.getElem?_eq_getElem hm1]
    refine br_eq (fun h0 => ?_) (fun h0 => ?_)
    · have hc : l[m] = 0 := by
        apply UInt8.toNat_inj.1
        show _ = 0
        omega
      unfold slStr
      refine ⟨⟨by omega, by rw [hsz]; omega⟩, ?_⟩
      rw [show (1 : Int).toNat = 1 from rfl, bs_extractN, List.drop_drop]
      refine ⟨⟨m + 1, rfl, by omega, fun j hj hmj => ?_, rfl⟩, ?_⟩
      · by_cases hjm : j < m
        · exact hz j hj hjm
        · have : j = m := by omega
          subst this; exact hc
      · dsimp only
        rw [bs_size, List.length_drop, bs_size, List.length_drop]; omega
    · exact hK m hm hz (.inr ⟨hm1, fun hc => h0 (by rw [hc]; rfl)⟩)
  · rw [hsz] at hneg
    exact hK m hm hz (.inl (by omega))

theorem Trim_spec {l : List UInt8} {K : VK} (h : St W w L) (hl : l.length < 1099511627776) (hK : ∀ r w', (r = .empty ↔ l = List.replicate l.length 0) → St W w' L → K (.string r) w') : strings_Trim (bs l) ⟨#[0]⟩ K w := by
  unfold strings_Trim
  have e0 : strEq (⟨#[0]⟩ : ByteArray) (⟨#[]⟩ : ByteArray) = false := by rw [strEq_iff]; exact decide_eq_false (fun h => absurd (congrArg ByteArray.size h) (by decide))
  rw [e0, strEq_iff]
  refine br_dec (fun hem => ?_) (fun hne => ?_)
  · unfold strings_Trim.j1
    rw [br_true]
    have : l = [] := bs_inj.1 hem
    subst this
    exact hK _ w (by simp [empty_bs]) h
  · unfold strings_Trim.j1
    rw [br_false]
    have e1 : ((((⟨#[0]⟩ : ByteArray).size : Nat) : Int) == 1) = true := by decide
    rw [e1, br_true]
    refine ⟨0, ⟨by decide, rfl⟩, ?_⟩
    have e2 : decide (((0 : UInt8).toNat : Int) < 128) = true := by decide
    dsimp only
    rw [e2]
    unfold strings_Trim.j3
    rw [br_true]
    refine tick_of h fun w h => ?_
    refine ⟨0, ⟨by decide, rfl⟩, ?_⟩
    refine ⟨0, ⟨by decide, rfl⟩, ?_⟩
    refine trimRight_spec hl fun m hm hz hlast => ?_
    simp only [nn_some, add_mk, Nat.zero_add, Nat.add_zero, Nat.reduceAdd, Nat.reduceMul, Option.isNone_some, Option.isNone_none, br_true, br_false, Bool.not_true, Bool.not_false, xI_eq, xB_eq, xS_eq, xP_eq, xL_eq, x0_eq, x2_eq, x3_eq, chk_eq, true_and, and_true, List.set_cons_zero, List.set_cons_succ, List.eraseIdx_cons_zero, List.eraseIdx_cons_succ]
    refine trimLeft_spec (by rw [List.length_take]; omega) fun q hq hz2 hfirst => ?_
    simp only [nn_some, add_mk, Nat.zero_add, Nat.add_zero, Nat.reduceAdd, Nat.reduceMul, Option.isNone_some, Option.isNone_none, br_true, br_false, Bool.not_true, Bool.not_false, xI_eq, xB_eq, xS_eq, xP_eq, xL_eq, x0_eq, x2_eq, x3_eq, chk_eq, true_and, and_true, List.set_cons_zero, List.set_cons_succ, List.eraseIdx_cons_zero, List.eraseIdx_cons_succ]
    refine hK _ w ?_ h
    have hlt : (l.take m).length = m := by rw [List.length_take]; omega
    rw [empty_bs, bs_inj]
    constructor
    · intro hd
      have hqm : q = m := by have := congrArg List.length hd; rw [List.length_drop, List.length_nil] at this; omega
      subst hqm
      rcases hlast with h0 | ⟨h1, h2⟩
      · subst h0
        exact List.eq_replicate_iff.2 ⟨rfl, fun x hx => by
          obtain ⟨j, hj, rfl⟩ := List.mem_iff_getElem.1 hx
          exact hz j hj (Nat.zero_le _)⟩
      · exfalso
        have hq0 : 0 < q := by
          rcases Nat.eq_zero_or_pos q with h0 | h0
          · subst h0
            exact absurd (hz _ h1 (by omega)) h2
          · exact h0
        have := hz2 (q - 1) (by omega) (by omega)
        rw [List.getElem_take] at this
        exact h2 this
    · intro hall
      have hz0 : ∀ j (hj : j < l.length), l[j] = 0 := fun j hj => (List.eq_replicate_iff.1 hall).2 _ (List.getElem_mem hj)
      rcases hfirst with h0 | ⟨h1, h2⟩
      · rw [List.drop_of_length_le (by omega)]
      · exfalso
        rw [List.getElem_take] at h2
        exact h2 (hz0 q _)

/-! ### A check sum that holds -/

def holdsL (l : List UInt8) : Bool := decide (4 ≤ l.length) && (le32 (sum32 0 (l.take (l.length - 4))) == l.drop (l.length - 4))

theorem Holds_spec {l : List UInt8} {K : VK} (h : St W w L) (hl : l.length < 1099511627776) (hK : ∀ w', St W w' L → K (.bool (holdsL l)) w') : castag_Holds (bs l) K w := by
  unfold castag_Holds
  refine tick_of h fun w h => ?_
  have ew : IntKind.i64.wrap (((bs l).size : Int) - 4) = (l.length : Int) - 4 := by rw [bs_size, wrap_id (by omega)]
  rw [ew]
  refine br_dec (fun h0 => ?_) (fun h0 => ?_)
  · have e1 : ((l.length : Int) - 4).toNat = l.length - 4 := by omega
    unfold slStr
    dsimp only
    refine ⟨⟨h0, by rw [bs_size]; omega⟩, ?_⟩
    refine ⟨⟨h0, by rw [bs_size]; omega⟩, ?_⟩
    rw [e1, bs_extract0, bs_extractN]
    refine Sum_spec (by rw [bs_size, List.length_take]; omega) ?_
    simp only [nn_some, add_mk, Nat.zero_add, Nat.add_zero, Nat.reduceAdd, Nat.reduceMul, Option.isNone_some, Option.isNone_none, br_true, br_false, Bool.not_true, Bool.not_false, xI_eq, xB_eq, xS_eq, xP_eq, xL_eq, x0_eq, x2_eq, x3_eq, chk_eq, true_and, and_true, List.set_cons_zero, List.set_cons_succ, List.eraseIdx_cons_zero, List.eraseIdx_cons_succ]
    refine castBytes_spec h (u32_wrap_in _) fun w h => ?_
    simp only [nn_some, add_mk, Nat.zero_add, Nat.add_zero, Nat.reduceAdd, Nat.reduceMul, Option.isNone_some, Option.isNone_none, br_true, br_false, Bool.not_true, Bool.not_false, xI_eq, xB_eq, xS_eq, xP_eq, xL_eq, x0_eq, x2_eq, x3_eq, chk_eq, true_and, and_true, List.set_cons_zero, List.set_cons_succ, List.eraseIdx_cons_zero, List.eraseIdx_cons_succ]
    have e2 : strEq (bs (le32 (sum32 0 (bs (l.take (l.length - 4))).data.toList))) (bs (l.drop (l.length - 4))) = holdsL l := by
      rw [strEq_iff]
      unfold holdsL
      rw [decide_eq_true (by omega : 4 ≤ l.length), Bool.true_and]
      show decide (bs (le32 (sum32 0 (l.take (l.length - 4)))) = bs (l.drop (l.length - 4))) = _
      by_cases hh : le32 (sum32 0 (l.take (l.length - 4))) = l.drop (l.length - 4)
      · rw [decide_eq_true (bs_inj.2 hh), hh, beq_self_eq_true]
      · rw [decide_eq_false (fun h => hh (bs_inj.1 h))]
        symm; simp [hh]
    rw [e2]
    exact hK w h
  · have e2 : holdsL l = false := by unfold holdsL; rw [decide_eq_false (by omega : ¬ 4 ≤ l.length)]; rfl
    rw [← e2]; exact hK w h

theorem Int_at {r : Nat} {l : List UInt8} {n : Nat} {K : VK} (h : St W w L) (hk : L[k]? = some (rdr r (bs l) false)) (h1 : 1 ≤ n) (h8 : n ≤ 8) (hn : n ≤ l.length)
    (hK : ∀ w', St W w' (L.set k (rdr r (bs (l.drop n)) false)) → K (.int .i64 (numL (l.take n))) w') : tape_Reader_Int (some ⟨r, 0, none⟩) n K w := by
  refine Int_spec h hk ?_
  have em : min2 (max2 (n : Int) 1) 8 = n := by unfold min2 max2; split <;> split <;> omega
  rw [em]
  have et : rawT (bs l) false n = false := by unfold rawT; rw [bs_size, decide_eq_false (by omega)]; rfl
  unfold rawS rawV
  rw [et, Int.toNat_natCast, bs_extract0, bs_extractN]
  exact hK

theorem Raw_at {r : Nat} {l : List UInt8} {n : Nat} {K : VK} (h : St W w L) (hk : L[k]? = some (rdr r (bs l) false)) (hn : n ≤ l.length)
    (hK : ∀ w', St W w' (L.set k (rdr r (bs (l.drop n)) false)) → K (.string (bs (l.take n))) w') : tape_Reader_Raw (some ⟨r, 0, none⟩) n K w := by
  refine Raw_spec h hk ?_
  have et : rawT (bs l) false n = false := by unfold rawT; rw [bs_size, decide_eq_false (by omega)]; rfl
  unfold rawS rawV
  rw [et, Int.toNat_natCast, bs_extract0, bs_extractN]
  exact hK
end
end Go.Sep

/- Layer 5: what a sector bears. -/
namespace Go.Sep
open Go.Den Go.RowKit Go.Prog Go.Plat
set_option linter.unusedSimpArgs false
set_option linter.unusedVariables false

theorem numL_small {l : List UInt8} (h : l.length ≤ 7) : numL l = (valL l : Int) := by
  have h1 := valL_lt l
  have h2 : 256 ^ l.length ≤ 256 ^ 7 := Nat.pow_le_pow_right (by decide) h
  have h3 : (256 : Nat) ^ 7 = 72057594037927936 := rfl
  unfold numL
  rw [wrap_id (by omega)]

/-- A sector's parts. -/
def sN (l : List UInt8) : Int := numL (l.take 8)
def sI (l : List UInt8) : Int := numL ((l.drop 8).take 2)
def sM (l : List UInt8) : Nat := valL (((l.drop 8).drop 2).take 2)
def sRest (l : List UInt8) : List UInt8 := ((l.drop 8).drop 2).drop 2
def sD (l : List UInt8) : List UInt8 := (sRest l).take (sM l)
def sZ (l : List UInt8) : List UInt8 := ((sRest l).drop (sM l)).take (104 - sM l)
def sTail (l : List UInt8) : Int := numL (((((sRest l).drop (sM l)).drop (104 - sM l)).drop 4).take 8)

def readV (l : List UInt8) : Option (Int × Int × ByteArray) :=
  if ¬ l.length = 128 then none
  else if holdsL (l.take 120) = false then none
  else if 104 < sM l then none
  else if ¬ sTail l = sN l then none
  else if ¬ sZ l = List.replicate (sZ l).length 0 then none
  else if ¬ Good (sN l) (sI l) (bs (sD l)) then none
  else some (sN l, sI l, bs (sD l))

def readRes : Option (Int × Int × ByteArray) → Value
  | none => .tuple ⟨[.agg ⟨[.int .i64 0, .int .i64 0, .string .empty]⟩, .bool false]⟩
  | some (n, i, d) => .tuple ⟨[.agg ⟨[.int .i64 n, .int .i64 i, .string d]⟩, .bool true]⟩

section
variable {W w : World} {L : List HP}

theorem Read_spec {l : List UInt8} {K : VK} (h : St W w L) (hl : l.length < 1099511627776) (hK : ∀ w', St W w' L → K (readRes (readV l)) w') : stamp_Read (bs l) K w := by
  unfold readV at hK
  unfold stamp_Read
  refine mk_of h fun r1 w hs => ?_
  rw [bs_size]
  have fail1 : (∀ w', St W w' L → K (readRes none) w') → ∀ w, St W w (pt r1 [.int .i64 0, .int .i64 0, .string .empty] :: L) → stamp_Read.j1 K r1 (bs l) true w := fun hK w hs => by
    unfold stamp_Read.j1
    simp only [nn_some, add_mk, Nat.zero_add, Nat.add_zero, Nat.reduceAdd, Nat.reduceMul, Option.isNone_some, Option.isNone_none, br_true, br_false, Bool.not_true, Bool.not_false, xI_eq, xB_eq, xS_eq, xP_eq, xL_eq, x0_eq, x2_eq, x3_eq, chk_eq, true_and, and_true, List.set_cons_zero, List.set_cons_succ, List.eraseIdx_cons_zero, List.eraseIdx_cons_succ]
    refine stN_pt (k := 0) hs rfl (Nat.le_of_ble_eq_true rfl) (by simp [Value.oneCell']) fun w hs => ?_
    rw [over_all (by simp)] at hs
    refine ldN_pt (k := 0) (xs := [.int .i64 0, .int .i64 0, .string .empty]) hs rfl rfl (fun j v hj => by rw [Nat.zero_add]; exact hj) ?_
    exact hK w hs.drop
  refine br_ne (fun hne => ?_) (fun he => ?_)
  · rw [if_pos (by omega)] at hK
    exact fail1 hK w hs
  have h128 : l.length = 128 := by omega
  rw [if_neg (by omega)] at hK
  unfold slStr
  dsimp only
  refine ⟨⟨by omega, by rw [bs_size]; omega⟩, ?_⟩
  rw [show (120 : Int).toNat = 120 from rfl, bs_extract0]
  refine Holds_spec hs (by rw [List.length_take]; omega) fun w hs => ?_
  simp only [nn_some, add_mk, Nat.zero_add, Nat.add_zero, Nat.reduceAdd, Nat.reduceMul, Option.isNone_some, Option.isNone_none, br_true, br_false, Bool.not_true, Bool.not_false, xI_eq, xB_eq, xS_eq, xP_eq, xL_eq, x0_eq, x2_eq, x3_eq, chk_eq, true_and, and_true, List.set_cons_zero, List.set_cons_succ, List.eraseIdx_cons_zero, List.eraseIdx_cons_succ]
  cases hh : holdsL (l.take 120) with
  | false =>
    rw [if_pos hh] at hK
    exact fail1 hK w hs
  | true =>
  rw [if_neg (by rw [hh]; exact Bool.noConfusion)] at hK
  unfold stamp_Read.j1
  simp only [nn_some, add_mk, Nat.zero_add, Nat.add_zero, Nat.reduceAdd, Nat.reduceMul, Option.isNone_some, Option.isNone_none, br_true, br_false, Bool.not_true, Bool.not_false, xI_eq, xB_eq, xS_eq, xP_eq, xL_eq, x0_eq, x2_eq, x3_eq, chk_eq, true_and, and_true, List.set_cons_zero, List.set_cons_succ, List.eraseIdx_cons_zero, List.eraseIdx_cons_succ]
  refine tRead_spec hs fun q w hs => ?_
  simp only [nn_some, add_mk, Nat.zero_add, Nat.add_zero, Nat.reduceAdd, Nat.reduceMul, Option.isNone_some, Option.isNone_none, br_true, br_false, Bool.not_true, Bool.not_false, xI_eq, xB_eq, xS_eq, xP_eq, xL_eq, x0_eq, x2_eq, x3_eq, chk_eq, true_and, and_true, List.set_cons_zero, List.set_cons_succ, List.eraseIdx_cons_zero, List.eraseIdx_cons_succ]
  refine Int_at (k := 0) (n := 8) hs rfl (by decide) (by decide) (by omega) fun w hs => ?_
  simp only [nn_some, add_mk, Nat.zero_add, Nat.add_zero, Nat.reduceAdd, Nat.reduceMul, Option.isNone_some, Option.isNone_none, br_true, br_false, Bool.not_true, Bool.not_false, xI_eq, xB_eq, xS_eq, xP_eq, xL_eq, x0_eq, x2_eq, x3_eq, chk_eq, true_and, and_true, List.set_cons_zero, List.set_cons_succ, List.eraseIdx_cons_zero, List.eraseIdx_cons_succ] at hs ⊢
  have l8 : (l.drop 8).length = 120 := by rw [List.length_drop]; omega
  refine Int_at (k := 0) (n := 2) hs rfl (by decide) (by decide) (by omega) fun w hs => ?_
  simp only [nn_some, add_mk, Nat.zero_add, Nat.add_zero, Nat.reduceAdd, Nat.reduceMul, Option.isNone_some, Option.isNone_none, br_true, br_false, Bool.not_true, Bool.not_false, xI_eq, xB_eq, xS_eq, xP_eq, xL_eq, x0_eq, x2_eq, x3_eq, chk_eq, true_and, and_true, List.set_cons_zero, List.set_cons_succ, List.eraseIdx_cons_zero, List.eraseIdx_cons_succ] at hs ⊢
  have l10 : ((l.drop 8).drop 2).length = 118 := by rw [List.length_drop]; omega
  refine mk_of hs fun r2 w hs => ?_
  refine ⟨by simp, ?_⟩
  refine stN_pt (k := 0) hs rfl (Nat.le_of_ble_eq_true rfl) (by simp [Value.oneCell']) fun w hs => ?_
  rw [over_all (by simp)] at hs
  simp only [nn_some, add_mk, Nat.zero_add, Nat.add_zero, Nat.reduceAdd, Nat.reduceMul, Option.isNone_some, Option.isNone_none, br_true, br_false, Bool.not_true, Bool.not_false, xI_eq, xB_eq, xS_eq, xP_eq, xL_eq, x0_eq, x2_eq, x3_eq, chk_eq, true_and, and_true, List.set_cons_zero, List.set_cons_succ, List.eraseIdx_cons_zero, List.eraseIdx_cons_succ] at hs
  refine Int_at (k := 1) (n := 2) hs rfl (by decide) (by decide) (by omega) fun w hs => ?_
  simp only [nn_some, add_mk, Nat.zero_add, Nat.add_zero, Nat.reduceAdd, Nat.reduceMul, Option.isNone_some, Option.isNone_none, br_true, br_false, Bool.not_true, Bool.not_false, xI_eq, xB_eq, xS_eq, xP_eq, xL_eq, x0_eq, x2_eq, x3_eq, chk_eq, true_and, and_true, List.set_cons_zero, List.set_cons_succ, List.eraseIdx_cons_zero, List.eraseIdx_cons_succ] at hs ⊢
  have em : numL (((l.drop 8).drop 2).take 2) = (sM l : Int) := numL_small (by rw [List.length_take]; omega)
  have en : numL (l.take 8) = sN l := rfl
  have ei : numL ((l.drop 8).take 2) = sI l := rfl
  have er : ((l.drop 8).drop 2).drop 2 = sRest l := rfl
  have lr : (sRest l).length = 116 := by unfold sRest; rw [List.length_drop]; omega
  rw [em]
  rw [en, ei, er] at hs
  have fail2 : (∀ w', St W w' L → K (readRes none) w') → ∀ w A B, St W w (A :: B :: pt r1 [.int .i64 0, .int .i64 0, .string .empty] :: L) → chk True (chk True (stN ⟨r1, 0, none⟩ [.int .i64 0, .int .i64 0, .string .empty] (ldN ⟨r1, 0, none⟩ 3 fun cs => K (.tuple ⟨[.agg ⟨cs⟩, .bool false]⟩)))) w := fun hK w A B hs => by
    refine ⟨trivial, trivial, ?_⟩
    refine stN_pt (k := 2) hs rfl (Nat.le_of_ble_eq_true rfl) (by simp [Value.oneCell']) fun w hs => ?_
    rw [over_all (by simp)] at hs
    refine ldN_pt (k := 2) (xs := [.int .i64 0, .int .i64 0, .string .empty]) hs rfl rfl (fun j v hj => by rw [Nat.zero_add]; exact hj) ?_
    exact hK w hs.drop.drop.drop
  refine br_of (fun hgt => ?_) (fun hle => ?_)
  · have hgt := of_decide_eq_true hgt
    rw [if_pos (by omega)] at hK
    exact fail2 hK w _ _ hs
  have hle := of_decide_eq_false hle
  rw [if_neg (by omega)] at hK
  refine Raw_at (k := 1) (n := sM l) hs rfl (by omega) fun w hs => ?_
  simp only [nn_some, add_mk, Nat.zero_add, Nat.add_zero, Nat.reduceAdd, Nat.reduceMul, Option.isNone_some, Option.isNone_none, br_true, br_false, Bool.not_true, Bool.not_false, xI_eq, xB_eq, xS_eq, xP_eq, xL_eq, x0_eq, x2_eq, x3_eq, chk_eq, true_and, and_true, List.set_cons_zero, List.set_cons_succ, List.eraseIdx_cons_zero, List.eraseIdx_cons_succ] at hs ⊢
  have ed : (sRest l).take (sM l) = sD l := rfl
  rw [ed]
  refine st_pt (k := 0) hs rfl (Nat.le_of_ble_eq_true rfl) rfl fun w hs => ?_
  simp only [nn_some, add_mk, Nat.zero_add, Nat.add_zero, Nat.reduceAdd, Nat.reduceMul, Option.isNone_some, Option.isNone_none, br_true, br_false, Bool.not_true, Bool.not_false, xI_eq, xB_eq, xS_eq, xP_eq, xL_eq, x0_eq, x2_eq, x3_eq, chk_eq, true_and, and_true, List.set_cons_zero, List.set_cons_succ, List.eraseIdx_cons_zero, List.eraseIdx_cons_succ] at hs
  have ew : IntKind.i64.wrap (104 - (sM l : Int)) = ((104 - sM l : Nat) : Int) := by rw [wrap_id (by omega)]; omega
  rw [ew]
  have lrm : ((sRest l).drop (sM l)).length = 116 - sM l := by rw [List.length_drop, lr]
  refine Raw_at (k := 1) (n := 104 - sM l) hs rfl (by omega) fun w hs => ?_
  simp only [nn_some, add_mk, Nat.zero_add, Nat.add_zero, Nat.reduceAdd, Nat.reduceMul, Option.isNone_some, Option.isNone_none, br_true, br_false, Bool.not_true, Bool.not_false, xI_eq, xB_eq, xS_eq, xP_eq, xL_eq, x0_eq, x2_eq, x3_eq, chk_eq, true_and, and_true, List.set_cons_zero, List.set_cons_succ, List.eraseIdx_cons_zero, List.eraseIdx_cons_succ] at hs ⊢
  have ez : ((sRest l).drop (sM l)).take (104 - sM l) = sZ l := rfl
  rw [ez]
  have lrz : (((sRest l).drop (sM l)).drop (104 - sM l)).length = 12 := by rw [List.length_drop, lrm]; omega
  refine Raw_at (k := 1) (n := 4) hs rfl (by omega) fun w hs => ?_
  simp only [nn_some, add_mk, Nat.zero_add, Nat.add_zero, Nat.reduceAdd, Nat.reduceMul, Option.isNone_some, Option.isNone_none, br_true, br_false, Bool.not_true, Bool.not_false, xI_eq, xB_eq, xS_eq, xP_eq, xL_eq, x0_eq, x2_eq, x3_eq, chk_eq, true_and, and_true, List.set_cons_zero, List.set_cons_succ, List.eraseIdx_cons_zero, List.eraseIdx_cons_succ] at hs ⊢
  have lrc : ((((sRest l).drop (sM l)).drop (104 - sM l)).drop 4).length = 8 := by rw [List.length_drop, lrz]
  refine tick_of hs fun w hs => ?_
  refine ld_pt (k := 0) hs rfl rfl ?_
  simp only [nn_some, add_mk, Nat.zero_add, Nat.add_zero, Nat.reduceAdd, Nat.reduceMul, Option.isNone_some, Option.isNone_none, br_true, br_false, Bool.not_true, Bool.not_false, xI_eq, xB_eq, xS_eq, xP_eq, xL_eq, x0_eq, x2_eq, x3_eq, chk_eq, true_and, and_true, List.set_cons_zero, List.set_cons_succ, List.eraseIdx_cons_zero, List.eraseIdx_cons_succ]
  refine Int_at (k := 1) (n := 8) hs rfl (by decide) (by decide) (by omega) fun w hs => ?_
  simp only [nn_some, add_mk, Nat.zero_add, Nat.add_zero, Nat.reduceAdd, Nat.reduceMul, Option.isNone_some, Option.isNone_none, br_true, br_false, Bool.not_true, Bool.not_false, xI_eq, xB_eq, xS_eq, xP_eq, xL_eq, x0_eq, x2_eq, x3_eq, chk_eq, true_and, and_true, List.set_cons_zero, List.set_cons_succ, List.eraseIdx_cons_zero, List.eraseIdx_cons_succ] at hs ⊢
  refine kp_one (k := 0) hs rfl rfl ?_
  have et : numL (((((sRest l).drop (sM l)).drop (104 - sM l)).drop 4).take 8) = sTail l := rfl
  rw [et]
  refine br_ne (fun hne => ?_) (fun heq => ?_)
  · rw [if_pos hne] at hK
    exact fail2 hK w _ _ hs
  rw [if_neg (fun hh => hh heq)] at hK
  refine Trim_spec hs (by unfold sZ; rw [List.length_take]; omega) fun s5 w hr hs => ?_
  simp only [nn_some, add_mk, Nat.zero_add, Nat.add_zero, Nat.reduceAdd, Nat.reduceMul, Option.isNone_some, Option.isNone_none, br_true, br_false, Bool.not_true, Bool.not_false, xI_eq, xB_eq, xS_eq, xP_eq, xL_eq, x0_eq, x2_eq, x3_eq, chk_eq, true_and, and_true, List.set_cons_zero, List.set_cons_succ, List.eraseIdx_cons_zero, List.eraseIdx_cons_succ]
  refine kp_one (k := 0) hs rfl rfl ?_
  have hemp : (⟨#[]⟩ : ByteArray) = .empty := rfl
  rw [strEq_iff, hemp]
  by_cases hz : sZ l = List.replicate (sZ l).length 0
  · rw [if_neg (fun hh => hh hz)] at hK
    rw [decide_eq_true (hr.2 hz)]
    simp only [nn_some, add_mk, Nat.zero_add, Nat.add_zero, Nat.reduceAdd, Nat.reduceMul, Option.isNone_some, Option.isNone_none, br_true, br_false, Bool.not_true, Bool.not_false, xI_eq, xB_eq, xS_eq, xP_eq, xL_eq, x0_eq, x2_eq, x3_eq, chk_eq, true_and, and_true, List.set_cons_zero, List.set_cons_succ, List.eraseIdx_cons_zero, List.eraseIdx_cons_succ]
    refine ldN_pt (k := 0) (xs := [.int .i64 (sN l), .int .i64 (sI l), .string (bs (sD l))]) hs rfl rfl (fun j v hj => by rw [Nat.zero_add]; exact hj) ?_
    refine good_spec hs fun w hs => ?_
    simp only [nn_some, add_mk, Nat.zero_add, Nat.add_zero, Nat.reduceAdd, Nat.reduceMul, Option.isNone_some, Option.isNone_none, br_true, br_false, Bool.not_true, Bool.not_false, xI_eq, xB_eq, xS_eq, xP_eq, xL_eq, x0_eq, x2_eq, x3_eq, chk_eq, true_and, and_true, List.set_cons_zero, List.set_cons_succ, List.eraseIdx_cons_zero, List.eraseIdx_cons_succ]
    refine kp_one (k := 0) hs rfl rfl ?_
    by_cases hg : Good (sN l) (sI l) (bs (sD l))
    · rw [if_neg (fun hh => hh hg)] at hK
      rw [decide_eq_true hg]
      simp only [nn_some, add_mk, Nat.zero_add, Nat.add_zero, Nat.reduceAdd, Nat.reduceMul, Option.isNone_some, Option.isNone_none, br_true, br_false, Bool.not_true, Bool.not_false, xI_eq, xB_eq, xS_eq, xP_eq, xL_eq, x0_eq, x2_eq, x3_eq, chk_eq, true_and, and_true, List.set_cons_zero, List.set_cons_succ, List.eraseIdx_cons_zero, List.eraseIdx_cons_succ]
      refine ldN_pt (k := 0) (xs := [.int .i64 (sN l), .int .i64 (sI l), .string (bs (sD l))]) hs rfl rfl (fun j v hj => by rw [Nat.zero_add]; exact hj) ?_
      refine ⟨rfl, ?_⟩
      refine stN_pt (k := 2) hs rfl (Nat.le_of_ble_eq_true rfl) (by simp [Value.oneCell']) fun w hs => ?_
      rw [over_all (by simp)] at hs
      simp only [nn_some, add_mk, Nat.zero_add, Nat.add_zero, Nat.reduceAdd, Nat.reduceMul, Option.isNone_some, Option.isNone_none, br_true, br_false, Bool.not_true, Bool.not_false, xI_eq, xB_eq, xS_eq, xP_eq, xL_eq, x0_eq, x2_eq, x3_eq, chk_eq, true_and, and_true, List.set_cons_zero, List.set_cons_succ, List.eraseIdx_cons_zero, List.eraseIdx_cons_succ] at hs
      refine ldN_pt (k := 2) (xs := [.int .i64 (sN l), .int .i64 (sI l), .string (bs (sD l))]) hs rfl rfl (fun j v hj => by rw [Nat.zero_add]; exact hj) ?_
      exact hK w hs.drop.drop.drop
    · rw [if_pos hg] at hK
      rw [decide_eq_false hg]
      simp only [nn_some, add_mk, Nat.zero_add, Nat.add_zero, Nat.reduceAdd, Nat.reduceMul, Option.isNone_some, Option.isNone_none, br_true, br_false, Bool.not_true, Bool.not_false, xI_eq, xB_eq, xS_eq, xP_eq, xL_eq, x0_eq, x2_eq, x3_eq, chk_eq, true_and, and_true, List.set_cons_zero, List.set_cons_succ, List.eraseIdx_cons_zero, List.eraseIdx_cons_succ]
      exact (fail2 hK w _ _ hs).2.2
  · rw [if_pos hz] at hK
    rw [decide_eq_false (fun hh => hz (hr.1 hh))]
    simp only [nn_some, add_mk, Nat.zero_add, Nat.add_zero, Nat.reduceAdd, Nat.reduceMul, Option.isNone_some, Option.isNone_none, br_true, br_false, Bool.not_true, Bool.not_false, xI_eq, xB_eq, xS_eq, xP_eq, xL_eq, x0_eq, x2_eq, x3_eq, chk_eq, true_and, and_true, List.set_cons_zero, List.set_cons_succ, List.eraseIdx_cons_zero, List.eraseIdx_cons_succ]
    exact (fail2 hK w _ _ hs).2.2
end
end Go.Sep

/- Layer 5: bytes taken from sectors. -/
namespace Go.Sep
open Go.Den Go.RowKit Go.Prog Go.Plat
set_option linter.unusedSimpArgs false
set_option linter.unusedVariables false

/-- Sectors from the i-th on, 'n' of them, taken: all their bytes. -/
def takeF (D : Disk) (at' number : Int) (size : Nat) : Nat → Nat → Option (List UInt8)
  | _, 0 => some []
  | i, n + 1 => match readV (D.read (at' + i)).1.data.toList with
    | none => none
    | some (m, j, d) => if m = number ∧ j = i ∧ d.size = min (size - 104 * i) 104 then (takeF D at' number size (i + 1) n).map (d.data.toList ++ ·) else none

def take (D : Disk) (at' to number size : Int) : Option (List UInt8) :=
  if at' < 0 ∨ (D.safe.length : Int) < to ∨ to < at' ∨ size < 0 ∨ 425984 < size ∨ to - at' < (cnt size.toNat : Int) then none else takeF D at' number size.toNat 0 (cnt size.toNat)

def takeRes : Option (List UInt8) → Value
  | none => .tuple ⟨[.string .empty, .bool false]⟩
  | some l => .tuple ⟨[.string (bs l), .bool true]⟩

theorem takeF_succ (D : Disk) (at' number : Int) (size i n : Nat) : takeF D at' number size i (n + 1) = match readV (D.read (at' + i)).1.data.toList with
    | none => none
    | some (m, j, d) => if m = number ∧ j = i ∧ d.size = min (size - 104 * i) 104 then (takeF D at' number size (i + 1) n).map (d.data.toList ++ ·) else none := rfl

theorem isB_below {B b : Nat} {l : List UInt8} {w w' : World} (h : isB B b l w) (hb : Below w.heap.size w w') : isB B b l w' := by
  have key : ∀ p, Go.Lib.BuilderAt tyB tyU8 B b p (Go.Lib.byteCells l) w → Go.Lib.BuilderAt tyB tyU8 B b p (Go.Lib.byteCells l) w' := by
    intro p h
    have hlt := h.lt
    obtain ⟨hB, v, hbk, hown, hne⟩ := h
    refine ⟨hB, v, by rw [hb.block b hlt]; exact hbk, ?_, hne⟩
    refine ⟨hown.1, ?_⟩
    rcases hown.2 with h0 | ⟨g, cap, cur, h1, h2, h3, h4⟩
    · exact .inl h0
    · refine .inr ⟨g, cap, cur, h1, h2, ?_, h4⟩
      have hg : g < w.heap.size := (Array.getElem?_eq_some_iff.1 h3).1
      rw [hb.block g hg]; exact h3
  rcases h with h | h
  · exact .inl (key _ h)
  · exact .inr (key _ h)

theorem isB_new {w : World} : isB w.heap.size w.heap.size [] (w.alloc (.cells ⟨[.pointer none, .slice none 0 0]⟩ tyB)) := by
  refine .inl ⟨Nat.le_refl _, .slice none 0 0, ?_, ?_, by intro h; cases h⟩
  · show (w.heap.push _)[w.heap.size]? = _
    rw [Array.getElem?_push_size]
  · exact ⟨rfl, .inl ⟨rfl, rfl⟩⟩

section
variable {W w : World} {L : List HP} {k d : Nat} {D : Disk}

theorem Take_j1_spec {at' number : Int} {size : Nat} {b : Bool} {K : VK} (h : St W w L) (hk : L[k]? = some (disk d D)) (hok : D.Ok) (hat : b = false → 0 ≤ at' ∧ at' + (cnt size : Int) ≤ D.safe.length) (hsz : size ≤ 425984)
    (hK : ∀ w', St W w' L → K (takeRes (if b then none else takeF D at' number size 0 (cnt size))) w') : stamp_Take.j1 K size (some ⟨d, 0, none⟩) at' number b w := by
  have hfew := hok.few
  unfold stamp_Take.j1
  refine br_of (fun hb => ?_) (fun hb => ?_)
  · rw [if_pos hb] at hK
    exact hK w h
  rw [if_neg (by rw [hb]; exact Bool.noConfusion)] at hK
  obtain ⟨h0, hto⟩ := hat hb
  generalize hw0 : w = w0 at *
  show mkT tyB [.pointer none, .slice none 0 0] _ w0
  unfold mkT
  have hB0 := isB_new (w := w0)
  have hbel0 : Below w0.heap.size w0 (w0.alloc (.cells ⟨[.pointer none, .slice none 0 0]⟩ tyB)) := Below.alloc (Below.refl _ _) (Nat.le_refl _) _
  generalize hw1 : w0.alloc (.cells ⟨[.pointer none, .slice none 0 0]⟩ tyB) = w1 at *
  generalize hq : w0.heap.size = q at *
  refine Count_spec (by omega) ?_
  simp only [nn_some, add_mk, Nat.zero_add, Nat.add_zero, Nat.reduceAdd, Nat.reduceMul, Option.isNone_some, Option.isNone_none, br_true, br_false, Bool.not_true, Bool.not_false, xI_eq, xB_eq, xS_eq, xP_eq, xL_eq, x0_eq, x2_eq, x3_eq, chk_eq, true_and, and_true, List.set_cons_zero, List.set_cons_succ, List.eraseIdx_cons_zero, List.eraseIdx_cons_succ]
  refine ⟨fun us w' => ∃ (j : Nat) (l : List UInt8), us = [.string .empty, .bool false, .pointer (some ⟨q, 0, none⟩), .int .i64 (cnt size), .int .i64 j] ∧ j ≤ cnt size ∧ l.length ≤ 104 * j ∧ isB q q l w' ∧ Below q w0 w' ∧ q ≤ w'.heap.size ∧
      takeF D at' number size 0 (cnt size) = (takeF D at' number size j (cnt size - j)).map (l ++ ·),
    fun us _ => match us with | [_, _, _, _, .int _ j] => cnt size - j.toNat | _ => 0, ⟨0, [], rfl, Nat.zero_le _, Nat.le_refl _, hB0, hbel0, ?_, ?_⟩, ?_⟩
  · have := hbel0.size; omega
  · cases takeF D at' number size 0 (cnt size) <;> simp
  rintro s1 b2 a1 n6 n7 w2 ⟨j, l, he, hj, hll, hB, hbel, hqs, htk⟩
  cases he
  have hs : St W w2 L := h.below_trans (by rw [hq]; exact hbel)
  have hcs : cnt size ≤ 4096 := by unfold cnt; split <;> omega
  refine br_dec (fun hlt => ?_) (fun hge => ?_)
  · have ea : IntKind.i64.wrap (at' + (j : Int)) = at' + j := wrap_id (by omega)
    rw [ea]
    refine Disk_Read_spec hs hk hok ?_
    simp only [nn_some, add_mk, Nat.zero_add, Nat.add_zero, Nat.reduceAdd, Nat.reduceMul, Option.isNone_some, Option.isNone_none, br_true, br_false, Bool.not_true, Bool.not_false, xI_eq, xB_eq, xS_eq, xP_eq, xL_eq, x0_eq, x2_eq, x3_eq, chk_eq, true_and, and_true, List.set_cons_zero, List.set_cons_succ, List.eraseIdx_cons_zero, List.eraseIdx_cons_succ]
    have hsz1 := read_size hok (i := at' + j) ⟨by omega, by omega⟩
    obtain ⟨p, hp⟩ : ∃ p, cnt size - j = p + 1 := ⟨cnt size - j - 1, by omega⟩
    rw [hp, takeF_succ] at htk
    generalize hx : (D.read (at' + (j : Int))).1 = x at *
    rw [show x = bs x.data.toList from rfl]
    refine Read_spec (St.start w2) (by rw [toList_length]; omega) fun w3 hs3 => ?_
    have hb3 := hs3.below
    have hbel3 : Below q w0 w3 := hbel.trans (hb3.mono hqs)
    have hs' : St W w3 L := h.below_trans (by rw [hq]; exact hbel3)
    have no : takeF D at' number size 0 (cnt size) = none → ∀ w', Below q w0 w' → K (.tuple ⟨[.string .empty, .bool false]⟩) w' := fun hn w' hb => by
      have := hK w' (h.below_trans (by rw [hq]; exact hb))
      rw [hn] at this; exact this
    cases hv : readV x.data.toList with
    | none =>
      rw [hv] at htk
      unfold readRes
      simp only [nn_some, add_mk, Nat.zero_add, Nat.add_zero, Nat.reduceAdd, Nat.reduceMul, Option.isNone_some, Option.isNone_none, br_true, br_false, Bool.not_true, Bool.not_false, xI_eq, xB_eq, xS_eq, xP_eq, xL_eq, x0_eq, x2_eq, x3_eq, chk_eq, true_and, and_true, List.set_cons_zero, List.set_cons_succ, List.eraseIdx_cons_zero, List.eraseIdx_cons_succ]
      simp only [xA_eq, List.length_cons, List.length_nil, Nat.zero_add, Nat.reduceAdd, true_and]
      simp only [nn_some, add_mk, Nat.zero_add, Nat.add_zero, Nat.reduceAdd, Nat.reduceMul, Option.isNone_some, Option.isNone_none, br_true, br_false, Bool.not_true, Bool.not_false, xI_eq, xB_eq, xS_eq, xP_eq, xL_eq, x0_eq, x2_eq, x3_eq, chk_eq, true_and, and_true, List.set_cons_zero, List.set_cons_succ, List.eraseIdx_cons_zero, List.eraseIdx_cons_succ]
      refine mk_of (St.start w3) fun r w4 hs4 => ?_
      refine ⟨trivial, stN_pt (k := 0) hs4 rfl (Nat.le_of_ble_eq_true rfl) (by simp [Value.oneCell']) fun w4 hs4 => ?_⟩
      exact no (by rw [htk]; rfl) w4 (hbel3.trans (hs4.below.mono (by have := hb3.size; omega)))
    | some y =>
      obtain ⟨m, i, dd⟩ := y
      rw [hv] at htk
      dsimp only at htk
      unfold readRes
      simp only [nn_some, add_mk, Nat.zero_add, Nat.add_zero, Nat.reduceAdd, Nat.reduceMul, Option.isNone_some, Option.isNone_none, br_true, br_false, Bool.not_true, Bool.not_false, xI_eq, xB_eq, xS_eq, xP_eq, xL_eq, x0_eq, x2_eq, x3_eq, chk_eq, true_and, and_true, List.set_cons_zero, List.set_cons_succ, List.eraseIdx_cons_zero, List.eraseIdx_cons_succ]
      simp only [xA_eq, List.length_cons, List.length_nil, Nat.zero_add, Nat.reduceAdd, true_and]
      simp only [nn_some, add_mk, Nat.zero_add, Nat.add_zero, Nat.reduceAdd, Nat.reduceMul, Option.isNone_some, Option.isNone_none, br_true, br_false, Bool.not_true, Bool.not_false, xI_eq, xB_eq, xS_eq, xP_eq, xL_eq, x0_eq, x2_eq, x3_eq, chk_eq, true_and, and_true, List.set_cons_zero, List.set_cons_succ, List.eraseIdx_cons_zero, List.eraseIdx_cons_succ]
      refine mk_of (St.start w3) fun r w4 hs4 => ?_
      refine ⟨trivial, stN_pt (k := 0) hs4 rfl (Nat.le_of_ble_eq_true rfl) (by simp [Value.oneCell']) fun w4 hs4 => ?_⟩
      rw [over_all (by simp)] at hs4
      simp only [nn_some, add_mk, Nat.zero_add, Nat.add_zero, Nat.reduceAdd, Nat.reduceMul, Option.isNone_some, Option.isNone_none, br_true, br_false, Bool.not_true, Bool.not_false, xI_eq, xB_eq, xS_eq, xP_eq, xL_eq, x0_eq, x2_eq, x3_eq, chk_eq, true_and, and_true, List.set_cons_zero, List.set_cons_succ, List.eraseIdx_cons_zero, List.eraseIdx_cons_succ] at hs4
      have hbel4 : Below q w0 w4 := hbel3.trans (hs4.below.mono (by have := hb3.size; omega))
      refine ld_pt (k := 0) hs4 rfl rfl ?_
      simp only [nn_some, add_mk, Nat.zero_add, Nat.add_zero, Nat.reduceAdd, Nat.reduceMul, Option.isNone_some, Option.isNone_none, br_true, br_false, Bool.not_true, Bool.not_false, xI_eq, xB_eq, xS_eq, xP_eq, xL_eq, x0_eq, x2_eq, x3_eq, chk_eq, true_and, and_true, List.set_cons_zero, List.set_cons_succ, List.eraseIdx_cons_zero, List.eraseIdx_cons_succ]
      refine br_ne (fun hne => ?_) (fun hmn => ?_)
      · exact no (by rw [htk, if_neg (fun hh => hne hh.1)]; rfl) w4 hbel4
      refine ld_pt (k := 0) hs4 rfl rfl ?_
      simp only [nn_some, add_mk, Nat.zero_add, Nat.add_zero, Nat.reduceAdd, Nat.reduceMul, Option.isNone_some, Option.isNone_none, br_true, br_false, Bool.not_true, Bool.not_false, xI_eq, xB_eq, xS_eq, xP_eq, xL_eq, x0_eq, x2_eq, x3_eq, chk_eq, true_and, and_true, List.set_cons_zero, List.set_cons_succ, List.eraseIdx_cons_zero, List.eraseIdx_cons_succ]
      refine br_ne (fun hne => ?_) (fun hij => ?_)
      · exact no (by rw [htk, if_neg (fun hh => hne hh.2.1)]; rfl) w4 hbel4
      refine ld_pt (k := 0) hs4 rfl rfl ?_
      simp only [nn_some, add_mk, Nat.zero_add, Nat.add_zero, Nat.reduceAdd, Nat.reduceMul, Option.isNone_some, Option.isNone_none, br_true, br_false, Bool.not_true, Bool.not_false, xI_eq, xB_eq, xS_eq, xP_eq, xL_eq, x0_eq, x2_eq, x3_eq, chk_eq, true_and, and_true, List.set_cons_zero, List.set_cons_succ, List.eraseIdx_cons_zero, List.eraseIdx_cons_succ]
      have e1 : IntKind.i64.wrap ((j : Int) * 104) = (j : Int) * 104 := wrap_id (by omega)
      have e2 : IntKind.i64.wrap ((size : Int) - (j : Int) * 104) = (size : Int) - (j : Int) * 104 := wrap_id (by omega)
      have hjs : 104 * j ≤ size := by
        rcases Nat.eq_zero_or_pos j with h0 | h0
        · omega
        · have := (cnt_lt (n := size) h0).2 (by omega)
          omega
      have e3 : min2 ((size : Int) - (j : Int) * 104) 104 = ((min (size - 104 * j) 104 : Nat) : Int) := by unfold min2; split <;> omega
      rw [e1, e2, e3]
      refine br_ne (fun hne => ?_) (fun hds => ?_)
      · exact no (by rw [htk, if_neg (fun hh => hne (by rw [hh.2.2]))]; rfl) w4 hbel4
      have hds' : dd.size = min (size - 104 * j) 104 := by omega
      refine ld_pt (k := 0) hs4 rfl rfl ?_
      simp only [nn_some, add_mk, Nat.zero_add, Nat.add_zero, Nat.reduceAdd, Nat.reduceMul, Option.isNone_some, Option.isNone_none, br_true, br_false, Bool.not_true, Bool.not_false, xI_eq, xB_eq, xS_eq, xP_eq, xL_eq, x0_eq, x2_eq, x3_eq, chk_eq, true_and, and_true, List.set_cons_zero, List.set_cons_succ, List.eraseIdx_cons_zero, List.eraseIdx_cons_succ]
      rw [if_pos ⟨hmn, hij, hds'⟩] at htk
      have hB4 : isB q q l w4 := isB_below hB (hb3.trans (hs4.below.mono hb3.size))
      refine ⟨q, q, l, rfl, hB4, by omega, (by have := hbel4.size; omega), fun w5 hB5 hbel5 => ?_⟩
      simp only [nn_some, add_mk, Nat.zero_add, Nat.add_zero, Nat.reduceAdd, Nat.reduceMul, Option.isNone_some, Option.isNone_none, br_true, br_false, Bool.not_true, Bool.not_false, xI_eq, xB_eq, xS_eq, xP_eq, xL_eq, x0_eq, x2_eq, x3_eq, chk_eq, true_and, and_true, List.set_cons_zero, List.set_cons_succ, List.eraseIdx_cons_zero, List.eraseIdx_cons_succ]
      have e5 : IntKind.i64.wrap ((j : Int) + 1) = ((j + 1 : Nat) : Int) := by rw [wrap_id (by omega)]; omega
      rw [e5]
      have hp2 : cnt size - (j + 1) = p := by omega
      refine ⟨⟨j + 1, _, rfl, by omega, ?_, hB5, hbel4.trans hbel5, ?_, ?_⟩, by omega⟩
      · rw [List.length_append, toList_length]; omega
      · have := hbel5.size; have := hbel4.size; omega
      · rw [htk, hp2]
        cases takeF D at' number size (j + 1) p <;> simp [List.append_assoc]
  · have hje : j = cnt size := by omega
    refine ⟨q, q, l, rfl, hB, hqs, fun w' hb => ?_⟩
    simp only [nn_some, add_mk, Nat.zero_add, Nat.add_zero, Nat.reduceAdd, Nat.reduceMul, Option.isNone_some, Option.isNone_none, br_true, br_false, Bool.not_true, Bool.not_false, xI_eq, xB_eq, xS_eq, xP_eq, xL_eq, x0_eq, x2_eq, x3_eq, chk_eq, true_and, and_true, List.set_cons_zero, List.set_cons_succ, List.eraseIdx_cons_zero, List.eraseIdx_cons_succ]
    have := hK w' (h.below_trans (by rw [hq]; exact hbel.trans hb))
    rw [htk, hje, Nat.sub_self] at this
    simp only [takeF, Option.map_some, List.append_nil, takeRes] at this
    exact this

theorem Take_spec {at' to number size : Int} {K : VK} (h : St W w L) (hk : L[k]? = some (disk d D)) (hok : D.Ok) (hK : ∀ w', St W w' L → K (takeRes (take D at' to number size)) w') : stamp_Take (some ⟨d, 0, none⟩) at' to number size K w := by
  have hfew := hok.few
  have bad : (at' < 0 ∨ (D.safe.length : Int) < to ∨ to < at' ∨ size < 0 ∨ 425984 < size ∨ to - at' < (cnt size.toNat : Int)) → stamp_Take.j1 K size (some ⟨d, 0, none⟩) at' number true w := fun hb => by
    unfold stamp_Take.j1
    rw [br_true]
    have := hK w h
    unfold take at this
    rw [if_pos hb] at this
    exact this
  unfold stamp_Take
  refine br_dec (fun h1 => bad (.inl h1)) (fun h1 => ?_)
  refine Disk_Sectors_spec h hk ?_
  simp only [nn_some, add_mk, Nat.zero_add, Nat.add_zero, Nat.reduceAdd, Nat.reduceMul, Option.isNone_some, Option.isNone_none, br_true, br_false, Bool.not_true, Bool.not_false, xI_eq, xB_eq, xS_eq, xP_eq, xL_eq, x0_eq, x2_eq, x3_eq, chk_eq, true_and, and_true, List.set_cons_zero, List.set_cons_succ, List.eraseIdx_cons_zero, List.eraseIdx_cons_succ]
  refine br_dec (fun h2 => bad (.inr (.inl h2))) (fun h2 => ?_)
  refine br_dec (fun h3 => bad (.inr (.inr (.inl h3)))) (fun h3 => ?_)
  refine br_dec (fun h4 => bad (.inr (.inr (.inr (.inl h4))))) (fun h4 => ?_)
  refine br_of (fun h5 => bad (.inr (.inr (.inr (.inr (.inl (of_decide_eq_true h5))))))) (fun h5 => ?_)
  have h5 := of_decide_eq_false h5
  obtain ⟨m, rfl⟩ := Int.eq_ofNat_of_zero_le (show 0 ≤ size by omega)
  refine Count_spec (by omega) ?_
  simp only [nn_some, add_mk, Nat.zero_add, Nat.add_zero, Nat.reduceAdd, Nat.reduceMul, Option.isNone_some, Option.isNone_none, br_true, br_false, Bool.not_true, Bool.not_false, xI_eq, xB_eq, xS_eq, xP_eq, xL_eq, x0_eq, x2_eq, x3_eq, chk_eq, true_and, and_true, List.set_cons_zero, List.set_cons_succ, List.eraseIdx_cons_zero, List.eraseIdx_cons_succ]
  have ew : IntKind.i64.wrap (to - at') = to - at' := wrap_id (by omega)
  rw [ew]
  refine Take_j1_spec h hk hok (fun hb => ?_) (by omega) fun w' hs => ?_
  · have := of_decide_eq_false hb
    omega
  · have := hK w' hs
    unfold take at this
    rw [Int.toNat_natCast] at this
    by_cases h6 : to - at' < (cnt m : Int)
    · rw [if_pos (by omega)] at this
      have e : decide ((cnt m : Int) > to - at') = true := decide_eq_true (by omega)
      rw [e, if_pos rfl]; exact this
    · rw [if_neg (by omega)] at this
      have e : decide ((cnt m : Int) > to - at') = false := decide_eq_false (by omega)
      rw [e, if_neg Bool.noConfusion]; exact this
end
end Go.Sep

/- Layer 5: what was laid is read, and taken: plain facts. -/
namespace Go.Sep
open Go.Den Go.RowKit Go.Prog Go.Plat
set_option linter.unusedSimpArgs false
set_option linter.unusedVariables false

theorem byteOf_nat (m i : Nat) (hi : i < 8) : (byteOf .i64 (m : Int) i).toNat = m / 256 ^ i % 256 := by
  have hp : (256 : Nat) ^ i = 2 ^ (8 * i) := by rw [show (256 : Nat) = 2 ^ 8 from rfl, ← Nat.pow_mul]
  have e1 : shr .i64 (m : Int) (8 * (i : Int)) = ((m / 256 ^ i : Nat) : Int) := by
    unfold shr
    have h1 : (8 * (i : Int)).toNat = 8 * i := by omega
    have h2 : min (8 * i) IntKind.i64.bits = 8 * i := by show min (8 * i) 64 = _; omega
    rw [h1, h2, hp, Int.fdiv_eq_ediv_of_nonneg _ (Int.le_of_lt (Int.pow_pos (by decide)))]
    push_cast
    rfl
  have e2 : IntKind.u8.wrap ((m / 256 ^ i : Nat) : Int) = ((m / 256 ^ i % 256 : Nat) : Int) := by
    generalize m / 256 ^ i = z
    simp [IntKind.wrap, IntKind.bits, IntKind.signed]
  unfold byteOf
  rw [e1, e2, Int.toNat_natCast, UInt8.toNat_ofNat_of_lt' (Nat.mod_lt _ (by decide))]

theorem le_succ (k : IntKind) (w : Nat) (n : Int) : le k (w + 1) n = le k w n ++ [byteOf k n w] := by
  unfold le; rw [List.range_succ, List.map_append]; rfl

theorem valL_le (m : Nat) : ∀ w, w ≤ 8 → valL (le .i64 w (m : Int)) = m % 256 ^ w
  | 0, _ => by simp [le, valL, Nat.mod_one]
  | w + 1, h => by
    rw [le_succ, valL_append, valL_le m w (by omega), byteOf_nat m w (by omega), le_length, Nat.mod_pow_succ, Nat.mul_comm]

theorem numL_le8 {n : Int} (h : 0 ≤ n ∧ n ≤ 1152921504606846976) : numL (le .i64 8 n) = n := by
  obtain ⟨m, rfl⟩ := Int.eq_ofNat_of_zero_le h.1
  unfold numL
  rw [valL_le m 8 (by omega)]
  have h8 : (256 : Nat) ^ 8 = 18446744073709551616 := rfl
  rw [h8, Nat.mod_eq_of_lt (by omega), wrap_id (by omega)]

theorem valL_le2 {m : Nat} (h : m < 65536) : valL (le .i64 2 (m : Int)) = m := by
  rw [valL_le m 2 (by omega)]
  exact Nat.mod_eq_of_lt h

/-- What a leaf's bytes are, part by part. -/
theorem readV_leaf {n i : Int} {s : ByteArray} (h : Good n i s) : readV (leafL n i s) = some (n, i, s) := by
  obtain ⟨h1, h2, h3, h4, h5⟩ := h
  have hl : (leafL n i s).length = 128 := leafL_length h5
  have hpl : (pre n i s).length = 116 := pre_length h5
  have hd : s.data.toList.length = s.size := rfl
  have hc : (le32 (sum32 0 (pre n i s))).length = 4 := le_length _ _ _
  have hshape : leafL n i s = le .i64 8 n ++ (le .i64 2 i ++ (le .i64 2 s.size ++ (s.data.toList ++ (List.replicate (104 - s.size) 0 ++ (le32 (sum32 0 (pre n i s)) ++ le .i64 8 n))))) := by
    simp only [leafL, pre, List.append_assoc]
  have t120 : (leafL n i s).take 120 = pre n i s ++ le32 (sum32 0 (pre n i s)) := by
    unfold leafL
    rw [List.take_append_of_le_length (by rw [List.length_append, hpl, hc]; omega), List.take_of_length_le (by rw [List.length_append, hpl, hc]; omega)]
  have hh : holdsL ((leafL n i s).take 120) = true := by
    rw [t120]
    unfold holdsL
    have hlen : (pre n i s ++ le32 (sum32 0 (pre n i s))).length = 120 := by rw [List.length_append, hpl, hc]
    rw [hlen, show 120 - 4 = (pre n i s).length from by rw [hpl], List.take_left, List.drop_left, beq_self_eq_true]
    rfl
  have tl : ∀ (a b : List UInt8) (m : Nat), a.length = m → (a ++ b).take m = a := fun a b m hm => by subst hm; exact List.take_left
  have dl : ∀ (a b : List UInt8) (m : Nat), a.length = m → (a ++ b).drop m = b := fun a b m hm => by subst hm; exact List.drop_left
  have d8 : (leafL n i s).drop 8 = le .i64 2 i ++ (le .i64 2 s.size ++ (s.data.toList ++ (List.replicate (104 - s.size) 0 ++ (le32 (sum32 0 (pre n i s)) ++ le .i64 8 n)))) := by rw [hshape, dl _ _ _ (le_length _ _ _)]
  have d10 : ((leafL n i s).drop 8).drop 2 = le .i64 2 s.size ++ (s.data.toList ++ (List.replicate (104 - s.size) 0 ++ (le32 (sum32 0 (pre n i s)) ++ le .i64 8 n))) := by rw [d8, dl _ _ _ (le_length _ _ _)]
  have hr : sRest (leafL n i s) = s.data.toList ++ (List.replicate (104 - s.size) 0 ++ (le32 (sum32 0 (pre n i s)) ++ le .i64 8 n)) := by unfold sRest; rw [d10, dl _ _ _ (le_length _ _ _)]
  have eN : sN (leafL n i s) = n := by unfold sN; rw [hshape, tl _ _ _ (le_length _ _ _), numL_le8 ⟨by omega, h2⟩]
  have eI : sI (leafL n i s) = i := by
    unfold sI
    rw [d8, tl _ _ _ (le_length _ _ _), numL_small (by rw [le_length]; omega)]
    obtain ⟨m, rfl⟩ := Int.eq_ofNat_of_zero_le h3
    rw [valL_le2 (by omega)]
  have eM : sM (leafL n i s) = s.size := by
    unfold sM
    rw [d10, tl _ _ _ (le_length _ _ _), valL_le2 (by omega)]
  have eD : sD (leafL n i s) = s.data.toList := by unfold sD; rw [eM, hr, tl _ _ _ hd]
  have dr : (sRest (leafL n i s)).drop s.size = List.replicate (104 - s.size) 0 ++ (le32 (sum32 0 (pre n i s)) ++ le .i64 8 n) := by rw [hr, dl _ _ _ hd]
  have eZ : sZ (leafL n i s) = List.replicate (104 - s.size) 0 := by unfold sZ; rw [eM, dr, tl _ _ _ (by simp)]
  have eT : sTail (leafL n i s) = n := by
    unfold sTail
    rw [eM, dr, dl _ _ _ (by simp), dl _ _ _ hc, List.take_of_length_le (by rw [le_length]; omega), numL_le8 ⟨by omega, h2⟩]
  have hg : Good (sN (leafL n i s)) (sI (leafL n i s)) (bs (sD (leafL n i s))) := by
    rw [eN, eI, eD, bs_data]; exact ⟨h1, h2, h3, h4, h5⟩
  unfold readV
  rw [if_neg (fun hx => hx hl), if_neg (by rw [hh]; exact Bool.noConfusion), if_neg (by rw [eM]; omega), if_neg (fun hx => hx (by rw [eT, eN])), if_neg (fun hx => hx (by rw [eZ]; simp)), if_neg (fun hx => hx hg), eN, eI, eD, bs_data]

theorem readV_zeros : readV (zeros 128).data.toList = none := by decide +kernel

theorem pad_128 {s : ByteArray} (h : s.size = 128) : Disk.pad s = s := by
  unfold Disk.pad
  rw [h]
  apply bytes_ext
  rw [ByteArray.data_append, Array.toList_append]
  simp [zeros]

/-- What is laid is there. -/
theorem layF_in {at' number : Int} {s : ByteArray} (hnum : 1 ≤ number ∧ number ≤ 1152921504606846976) (hat : 0 ≤ at') : ∀ (n i : Nat) {D : Disk}, D.arm = 0 → at' + i + n ≤ D.safe.length → i + n ≤ 4096 →
    ∀ q, i ≤ q → q < i + n → (layF at' number s D i n).1.now (at' + q) = leaf number q (part s q)
  | 0, i, D, ha, hr, hi, q, h1, h2 => by omega
  | n + 1, i, D, ha, hr, hi, q, h1, h2 => by
    have hg : Good number i (part s i) := ⟨hnum.1, hnum.2, by omega, by omega, part_size s i⟩
    have hsz := leaf_size hg
    have hi' : D.is (at' + i) := ⟨by omega, by omega⟩
    have hbad : ¬ (¬ D.is (at' + i) ∨ 128 < (leaf number i (part s i)).size) := by
      rintro (hh | hh)
      · exact hh hi'
      · omega
    have hw : D.write (at' + i) (leaf number i (part s i)) = ({ Go.Plat.Disk.tick D with later := D.later ++ [(at' + i, Disk.pad (leaf number i (part s i)))] }, 0) := by
      rw [Dk.write0 ha, if_neg hbad]
    have h0 : (D.write (at' + i) (leaf number i (part s i))).2 = 0 := by rw [hw]
    have hsafe := (write_len D (at' + i) (leaf number i (part s i))).1
    have harm := Dk.write0_arm ha (at' + i) (leaf number i (part s i))
    unfold layF
    rw [if_neg (by rw [h0]; exact fun hh => hh rfl)]
    by_cases hq : q = i
    · subst hq
      have := (layF0 hnum hat (s := s) n (q + 1) (D := (D.write (at' + q) (leaf number q (part s q))).1) harm (by rw [hsafe]; omega) (by omega)).2.2.2.2 (at' + q) (by omega)
      rw [this, Dk.now_write0 ha, if_pos ⟨⟨hi', by omega⟩, rfl⟩, pad_128 hsz]
    · exact layF_in hnum hat (s := s) n (i + 1) harm (by rw [hsafe]; omega) (by omega) q (by omega) (by omega)

theorem takeF_all {D : Disk} {at' number : Int} {size : Nat} {s : ByteArray} : ∀ (n i : Nat), (∀ q, i ≤ q → q < i + n → readV (D.read (at' + q)).1.data.toList = some (number, (q : Int), part s q) ∧ (part s q).size = min (size - 104 * q) 104) →
    takeF D at' number size i n = some ((s.data.toList.drop (104 * i)).take (104 * n))
  | 0, i, _ => by simp [takeF]
  | n + 1, i, h => by
    obtain ⟨h1, h2⟩ := h i (Nat.le_refl _) (by omega)
    rw [takeF_succ, h1]
    dsimp only
    rw [if_pos ⟨rfl, rfl, h2⟩, takeF_all n (i + 1) (fun q hq hq2 => h q (by omega) (by omega))]
    have e : (part s i).data.toList = (s.data.toList.drop (104 * i)).take 104 := by
      unfold part
      rw [extract_toList]; congr 1; omega
    rw [e, Option.map_some]
    congr 1
    rw [show 104 * (n + 1) = 104 + 104 * n from by omega, List.take_add, List.drop_drop, show 104 * i + 104 = 104 * (i + 1) from by omega]

theorem takeF_none {D : Disk} {at' number : Int} {size : Nat} : ∀ (n i q : Nat), i ≤ q → q < i + n →
    (∀ m j d, readV (D.read (at' + q)).1.data.toList = some (m, j, d) → ¬ (m = number ∧ j = (q : Int) ∧ d.size = min (size - 104 * q) 104)) → takeF D at' number size i n = none
  | 0, i, q, h1, h2, _ => by omega
  | n + 1, i, q, h1, h2, hbad => by
    rw [takeF_succ]
    by_cases hq : q = i
    · subst hq
      cases hv : readV (D.read (at' + (q : Int))).1.data.toList with
      | none => rfl
      | some y =>
        obtain ⟨m, j, d⟩ := y
        dsimp only
        rw [if_neg (hbad m j d hv)]
    · have ih := takeF_none (D := D) (at' := at') (number := number) (size := size) n (i + 1) q (by omega) (by omega) hbad
      split
      · rfl
      · split
        · rw [ih]; rfl
        · rfl
end Go.Sep
