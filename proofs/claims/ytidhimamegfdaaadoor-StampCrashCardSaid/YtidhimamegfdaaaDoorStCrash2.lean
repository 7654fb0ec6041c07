/- The law StampCrash: the walk. -/
import Derived.Test.YtidhimamegfdaaaDoorStCrash
namespace Go.Sep
open Go.Den Go.RowKit Go.Prog Go.Plat
set_option linter.unusedSimpArgs false
set_option linter.unusedVariables false

theorem layF_later {at' number : Int} {s : ByteArray} (hnum : 1 ≤ number ∧ number ≤ 1152921504606846976) (hat : 0 ≤ at') : ∀ (n i : Nat) {D : Disk}, D.arm = 0 → at' + i + n ≤ D.safe.length → i + n ≤ 4096 →
    (layF at' number s D i n).1.later = D.later ++ (List.range' i n).map fun q : Nat => (at' + (q : Int), Disk.pad (leaf number q (part s q)))
  | 0, i, D, ha, hr, hi => by simp [layF]
  | n + 1, i, D, ha, hr, hi => by
    have hg : Good number i (part s i) := ⟨hnum.1, hnum.2, by omega, by omega, part_size s i⟩
    have hsz := leaf_size hg
    have hi' : D.is (at' + i) := ⟨by omega, by omega⟩
    have hbad : ¬ (¬ D.is (at' + i) ∨ 128 < (leaf number i (part s i)).size) := by
      rintro (hh | hh)
      · exact hh hi'
      · omega
    have hw : D.write (at' + i) (leaf number i (part s i)) = ({ Go.Plat.Disk.tick D with later := D.later ++ [(at' + i, Disk.pad (leaf number i (part s i)))] }, 0) := by
      rw [Dk.write0 ha, if_neg hbad]
    have h0 : (D.write (at' + i) (leaf number i (part s i))).2 = 0 := by rw [hw]
    have hsafe := (write_len D (at' + i) (leaf number i (part s i))).1
    have harm := Dk.write0_arm ha (at' + i) (leaf number i (part s i))
    have hlat : (D.write (at' + i) (leaf number i (part s i))).1.later = D.later ++ [(at' + i, Disk.pad (leaf number i (part s i)))] := by rw [hw]
    unfold layF
    rw [if_neg (by rw [h0]; exact fun hh => hh rfl), layF_later hnum hat n (i + 1) harm (by rw [hsafe]; omega) (by omega), hlat, List.range'_succ, List.map_cons, List.append_assoc]
    rfl

def lvs (n : Int) (s : ByteArray) (c : Nat) : List ByteArray := (List.range c).map fun q : Nat => leaf n q (part s q)

theorem lvs_tw (n : Int) (s : ByteArray) (c : Nat) : ((List.range' 0 c).map fun q : Nat => ((0 : Int) + (q : Int), Disk.pad (leaf n q (part s q)))) = tw 0 (lvs n s c) := by
  apply List.ext_getElem?
  intro k
  rw [tw_get]
  unfold lvs
  rw [List.getElem?_map, List.getElem?_map, Option.map_map, ← List.range_eq_range']
  by_cases hk : k < c
  · rw [List.getElem?_range hk]
    simp
  · rw [List.getElem?_eq_none (by simpa using hk)]
    rfl

/-- A sector behind the crash. -/
theorem crash_sector {n mask torn cut : Int} {s : ByteArray} {D : Disk} (hok : D.Ok) (harm : D.arm = 0) (hlat : D.later = []) (hlen : D.safe.length = 12) (hn : 1 ≤ n ∧ n ≤ 1152921504606846976) (hc : cnt s.size ≤ 12)
    (hgr : grTo D 12 < n) {i : Nat} (hi : i < cnt s.size) {j : Int} {d : ByteArray} :
    readV (((layF 0 n s D 0 (cnt s.size)).1.crash mask torn cut).read ((0 : Int) + (i : Int))).1.data.toList = some (n, j, d) → (((layF 0 n s D 0 (cnt s.size)).1.crash mask torn cut).read ((0 : Int) + (i : Int))).1 = leaf n i (part s i) := by
  have hg : Good n i (part s i) := ⟨hn.1, hn.2, by omega, by omega, part_size s i⟩
  have hpad : ∀ q : Nat, q < 12 → Disk.pad (leaf n q (part s q)) = leaf n q (part s q) := fun q hq => pad_128 (leaf_size ⟨hn.1, hn.2, by omega, by omega, part_size s q⟩)
  have hl0 := layF0 (at' := 0) (number := n) (s := s) hn (by decide) (cnt s.size) 0 (D := D) harm (by rw [hlen]; omega) (by omega)
  have hll := layF_later (at' := 0) (number := n) (s := s) hn (by decide) (cnt s.size) 0 (D := D) harm (by rw [hlen]; omega) (by omega)
  rw [hlat, List.nil_append, lvs_tw] at hll
  obtain ⟨_, _, hsafe, _, _⟩ := hl0
  generalize (layF 0 n s D 0 (cnt s.size)).1 = D1 at *
  have hvl : (lvs n s (cnt s.size)).length = cnt s.size := by simp [lvs]
  have hi12 : i < 12 := by omega
  have hil : i < D.safe.length := by omega
  have hold : (D.read (i : Int)).1 = D.safe[i] := by rw [read_safe hlat hil]
  have holdsz : (D.safe[i]).size = 128 := hok.safe _ (List.getElem_mem hil)
  have hD2 : (D1.crash mask torn cut).safe = crashed mask torn (min2 (max2 cut 0) 128) D.safe (tw 0 (lvs n s (cnt s.size))) (cnt s.size) := by
    rw [crash_eq, hsafe, hll, tw_length, hvl]
  have hcg := crashed_get mask torn (min2 (max2 cut 0) 128) D.safe (lvs n s (cnt s.size)) (by rw [hvl, hlen]; exact hc) (cnt s.size) i (by rw [hvl]; exact Nat.le_refl _)
  rw [if_pos hi] at hcg
  have hgd : (lvs n s (cnt s.size)).getD i .empty = leaf n i (part s i) := by
    unfold lvs
    rw [List.getD_eq_getElem?_getD, List.getElem?_map, List.getElem?_range hi]; rfl
  have hsd : D.safe.getD i .empty = D.safe[i] := by simp [hil]
  rw [hgd, hpad i hi12, hsd, List.getElem?_eq_getElem hil] at hcg
  have h2l : i < (D1.crash mask torn cut).safe.length := by rw [hD2, crashed_length]; exact hil
  have hrd : ((D1.crash mask torn cut).read ((0 : Int) + (i : Int))).1 = (D1.crash mask torn cut).safe[i] := by
    rw [Int.zero_add, read_safe (by rw [crash_eq]) h2l]
  have hx : (D1.crash mask torn cut).safe[i]? = some ((D1.crash mask torn cut).safe[i]) := List.getElem?_eq_getElem h2l
  rw [← hD2, hx] at hcg
  rw [hrd]
  clear hx hrd
  generalize (D1.crash mask torn cut).safe[i] = X at *
  have hno := numOf_le (D := D) 12 i hi12
  rw [hold] at hno
  have hcut := cut_in cut
  intro hv
  by_cases ht : (i : Int) = torn
  · rw [if_pos ht] at hcg
    have e := Option.some.inj hcg
    rw [e] at hv ⊢
    exact torn_leaf (m := n) (j := j) (d := d) (by omega) hn holdsz (by omega) (by omega) hv
  · rw [if_neg ht] at hcg
    by_cases hb : Disk.bit mask i = true
    · rw [if_pos hb] at hcg
      exact Option.some.inj hcg
    · rw [if_neg hb] at hcg
      have e := Option.some.inj hcg
      rw [e] at hv
      obtain ⟨_, _, _, h4, _, _⟩ := readV_some hv
      exact absurd h4.symm (old_head holdsz hn (by omega))

section
variable {W w : World} {L : List HP}

theorem Crash_spec {sb : Option Addr} {sn sc : Nat} {ss : List ByteArray} {s : ByteArray} {mask torn cut : Int} {K : VK} (h : St W w L) (hr : Ro W sb sn 1 (ss.map .string)) (hmx : sn ≤ maxLen) (hs : s.size ≤ reachBytes)
    (hK : ∀ w', St W w' L → K (.bool true) w') : bondstorelaw05_StampCrash sb sn sc s mask torn cut K w := by
  unfold bondstorelaw05_StampCrash
  refine alive5_spec h fun w h => ?_
  simp only [nn_some, add_mk, Nat.zero_add, Nat.add_zero, Nat.reduceAdd, Nat.reduceMul, Option.isNone_some, Option.isNone_none, br_true, br_false, Bool.not_true, Bool.not_false, xI_eq, xB_eq, xS_eq, xP_eq, xL_eq, x0_eq, x2_eq, x3_eq, chk_eq, true_and, and_true, List.set_cons_zero, List.set_cons_succ, List.eraseIdx_cons_zero, List.eraseIdx_cons_succ]
  refine br_dec (fun _ => hK w h) (fun h1000 => ?_)
  refine disk5_spec h hr hmx fun d D w hok harm hlat hlen h => ?_
  simp only [nn_some, add_mk, Nat.zero_add, Nat.add_zero, Nat.reduceAdd, Nat.reduceMul, Option.isNone_some, Option.isNone_none, br_true, br_false, Bool.not_true, Bool.not_false, xI_eq, xB_eq, xS_eq, xP_eq, xL_eq, x0_eq, x2_eq, x3_eq, chk_eq, true_and, and_true, List.set_cons_zero, List.set_cons_succ, List.eraseIdx_cons_zero, List.eraseIdx_cons_succ]
  refine Greatest_spec (k := 0) h rfl hok fun w h => ?_
  simp only [nn_some, add_mk, Nat.zero_add, Nat.add_zero, Nat.reduceAdd, Nat.reduceMul, Option.isNone_some, Option.isNone_none, br_true, br_false, Bool.not_true, Bool.not_false, xI_eq, xB_eq, xS_eq, xP_eq, xL_eq, x0_eq, x2_eq, x3_eq, chk_eq, true_and, and_true, List.set_cons_zero, List.set_cons_succ, List.eraseIdx_cons_zero, List.eraseIdx_cons_succ]
  rw [hlen]
  have hgi := grTo_in D 12
  have en : IntKind.i64.wrap (grTo D 12 + 1) = grTo D 12 + 1 := wrap_id (by omega)
  rw [en]
  generalize hgn : grTo D 12 + 1 = n at *
  refine br_dec (fun _ => hK w h.drop) (fun hmost => ?_)
  have hn : 1 ≤ n ∧ n ≤ 1152921504606846976 := by omega
  have hc : cnt s.size ≤ 12 := by unfold cnt; split <;> omega
  have elay : lay D 0 12 n s = layF 0 n s D 0 (cnt s.size) := by
    unfold lay
    rw [if_neg (by rw [hlen]; omega), if_neg (by omega)]
  refine Lay_spec (k := 0) h rfl hok (by rw [hlat]; decide) hs fun w h => ?_
  simp only [nn_some, add_mk, Nat.zero_add, Nat.add_zero, Nat.reduceAdd, Nat.reduceMul, Option.isNone_some, Option.isNone_none, br_true, br_false, Bool.not_true, Bool.not_false, xI_eq, xB_eq, xS_eq, xP_eq, xL_eq, x0_eq, x2_eq, x3_eq, chk_eq, true_and, and_true, List.set_cons_zero, List.set_cons_succ, List.eraseIdx_cons_zero, List.eraseIdx_cons_succ] at h ⊢
  have hl0 := layF0 (at' := 0) (number := n) (s := s) hn (by decide) (cnt s.size) 0 (D := D) harm (by rw [hlen]; omega) (by omega)
  have hlok := layF_ok (at' := 0) (number := n) (s := s) (cnt s.size) 0 hok (by rw [hlat]; simp; omega)
  rw [elay] at h ⊢
  rw [hl0.1]
  refine br_ne (fun hh => absurd rfl hh) (fun _ => ?_)
  refine rCount_spec (by omega) ?_
  simp only [nn_some, add_mk, Nat.zero_add, Nat.add_zero, Nat.reduceAdd, Nat.reduceMul, Option.isNone_some, Option.isNone_none, br_true, br_false, Bool.not_true, Bool.not_false, xI_eq, xB_eq, xS_eq, xP_eq, xL_eq, x0_eq, x2_eq, x3_eq, chk_eq, true_and, and_true, List.set_cons_zero, List.set_cons_succ, List.eraseIdx_cons_zero, List.eraseIdx_cons_succ]
  refine Disk_Crash_spec (k := 0) h rfl hlok.1 fun w h => ?_
  simp only [nn_some, add_mk, Nat.zero_add, Nat.add_zero, Nat.reduceAdd, Nat.reduceMul, Option.isNone_some, Option.isNone_none, br_true, br_false, Bool.not_true, Bool.not_false, xI_eq, xB_eq, xS_eq, xP_eq, xL_eq, x0_eq, x2_eq, x3_eq, chk_eq, true_and, and_true, List.set_cons_zero, List.set_cons_succ, List.eraseIdx_cons_zero, List.eraseIdx_cons_succ] at h ⊢
  have hok2 := crash_ok hlok.1 mask torn cut
  have hsec := fun (i : Nat) (hi : i < cnt s.size) (j : Int) (dd : ByteArray) => crash_sector (n := n) (mask := mask) (torn := torn) (cut := cut) (s := s) hok harm hlat hlen hn hc (by omega) hi (j := j) (d := dd)
  have hlen2 : ((layF 0 n s D 0 (cnt s.size)).1.crash mask torn cut).safe.length = 12 := by rw [crash_eq]; simp only [crashed_length]; rw [hlok.2.1]; exact hlen
  generalize (layF 0 n s D 0 (cnt s.size)).1.crash mask torn cut = D2 at *
  have hgood : ∀ i : Nat, i < 12 → Good n i (part s i) := fun i hi => ⟨hn.1, hn.2, by omega, by omega, part_size s i⟩
  have hlf : ∀ i : Nat, i < 12 → leaf n i (part s i) = bs (leafL n i (part s i)) := fun i hi => by unfold leaf; rw [if_pos (hgood i hi)]
  have hps : ∀ q : Nat, (part s q).size = min (104 * (q + 1)) s.size - 104 * q := fun q => by unfold part; rw [strEx]
  have hbb : s.size ≤ 104 * cnt s.size := by unfold cnt; split <;> omega
  have htake : take D2 0 12 n (s.size : Int) = if (∀ i : Nat, i < cnt s.size → (D2.read (i : Int)).1 = leaf n i (part s i)) then some s.data.toList else none := by
    unfold take
    rw [if_neg (by rw [hlen2, Int.toNat_natCast]; omega), Int.toNat_natCast]
    by_cases hall : ∀ i : Nat, i < cnt s.size → (D2.read (i : Int)).1 = leaf n i (part s i)
    · rw [if_pos hall, takeF_all (s := s) (cnt s.size) 0 (fun q _ hq => by
        have hq12 : q < 12 := by omega
        rw [Int.zero_add, hall q (by omega), hlf q hq12]
        exact ⟨readV_leaf (hgood q hq12), by rw [hps]; omega⟩)]
      congr 1
      rw [Nat.mul_zero, List.drop_zero, List.take_of_length_le (by rw [toList_length]; exact hbb)]
    · rw [if_neg hall]
      have hex : ∃ q : Nat, q < cnt s.size ∧ (D2.read (q : Int)).1 ≠ leaf n q (part s q) := by
        by_cases hh : ∃ q : Nat, q < cnt s.size ∧ (D2.read (q : Int)).1 ≠ leaf n q (part s q)
        · exact hh
        · refine absurd (fun i hi => ?_) hall
          by_cases he : (D2.read (i : Int)).1 = leaf n i (part s i)
          · exact he
          · exact absurd ⟨i, hi, he⟩ hh
      obtain ⟨q, hq, hne⟩ := hex
      refine takeF_none (cnt s.size) 0 q (Nat.zero_le _) (by omega) fun m j dd hv hh => ?_
      have hm := hh.1
      subst hm
      have := hsec q hq j dd hv
      rw [Int.zero_add] at this
      exact hne this
  refine Take_spec (k := 0) h rfl hok2 fun w h => ?_
  rw [htake]
  obtain ⟨t, ok, htr, h1, h2, h3⟩ : ∃ t ok, takeRes (if (∀ i : Nat, i < cnt s.size → (D2.read (i : Int)).1 = leaf n i (part s i)) then some s.data.toList else none) = .tuple ⟨[.string t, .bool ok]⟩ ∧
      ok = decide (∀ i : Nat, i < cnt s.size → (D2.read (i : Int)).1 = leaf n i (part s i)) ∧ (ok = true → t = s) ∧ (ok = false → t = .empty) := by
    by_cases hall : ∀ i : Nat, i < cnt s.size → (D2.read (i : Int)).1 = leaf n i (part s i)
    · exact ⟨s, true, by rw [if_pos hall]; rfl, by rw [decide_eq_true hall], fun _ => rfl, fun hh => (by cases hh)⟩
    · exact ⟨.empty, false, by rw [if_neg hall]; rfl, by rw [decide_eq_false hall], fun hh => (by cases hh), fun _ => rfl⟩
  rw [htr]
  simp only [nn_some, add_mk, Nat.zero_add, Nat.add_zero, Nat.reduceAdd, Nat.reduceMul, Option.isNone_some, Option.isNone_none, br_true, br_false, Bool.not_true, Bool.not_false, xI_eq, xB_eq, xS_eq, xP_eq, xL_eq, x0_eq, x2_eq, x3_eq, chk_eq, true_and, and_true, List.set_cons_zero, List.set_cons_succ, List.eraseIdx_cons_zero, List.eraseIdx_cons_succ]
  refine ⟨fun us w' => ∃ j : Nat, us = [.bool false, .pointer (some ⟨d, 0, none⟩), .int .i64 n, .int .i64 (cnt s.size), .string t, .bool ok, .bool (decide (∀ i : Nat, i < j → (D2.read (i : Int)).1 = leaf n i (part s i))), .int .i64 j] ∧ j ≤ cnt s.size ∧ St W w' (disk d D2 :: L),
    fun us _ => match us with | [_, _, _, _, _, _, _, .int _ j] => cnt s.size - j.toNat | _ => 0, ⟨0, by simp, Nat.zero_le _, h⟩, ?_⟩
  rintro b3 p2 n7 n8 s3 b4 b5 n9 w2 ⟨j, he, hj, hs2⟩
  cases he
  refine br_dec (fun hlt => ?_) (fun hge => ?_)
  · have e5 : IntKind.i64.wrap ((j : Int) + 1) = ((j + 1 : Nat) : Int) := by rw [wrap_id (by omega)]; omega
    have hj12 : j < 12 := by omega
    refine Disk_Read_spec (k := 0) hs2 rfl hok2 ?_
    simp only [nn_some, add_mk, Nat.zero_add, Nat.add_zero, Nat.reduceAdd, Nat.reduceMul, Option.isNone_some, Option.isNone_none, br_true, br_false, Bool.not_true, Bool.not_false, xI_eq, xB_eq, xS_eq, xP_eq, xL_eq, x0_eq, x2_eq, x3_eq, chk_eq, true_and, and_true, List.set_cons_zero, List.set_cons_succ, List.eraseIdx_cons_zero, List.eraseIdx_cons_succ]
    rw [e5]
    refine br_dec (fun hall => ?_) (fun hnot => ?_)
    · refine rPart_spec (by omega) hs ?_
      simp only [nn_some, add_mk, Nat.zero_add, Nat.add_zero, Nat.reduceAdd, Nat.reduceMul, Option.isNone_some, Option.isNone_none, br_true, br_false, Bool.not_true, Bool.not_false, xI_eq, xB_eq, xS_eq, xP_eq, xL_eq, x0_eq, x2_eq, x3_eq, chk_eq, true_and, and_true, List.set_cons_zero, List.set_cons_succ, List.eraseIdx_cons_zero, List.eraseIdx_cons_succ]
      refine rLeaf_spec hs2 (part_size s j) fun w h => ?_
      simp only [nn_some, add_mk, Nat.zero_add, Nat.add_zero, Nat.reduceAdd, Nat.reduceMul, Option.isNone_some, Option.isNone_none, br_true, br_false, Bool.not_true, Bool.not_false, xI_eq, xB_eq, xS_eq, xP_eq, xL_eq, x0_eq, x2_eq, x3_eq, chk_eq, true_and, and_true, List.set_cons_zero, List.set_cons_succ, List.eraseIdx_cons_zero, List.eraseIdx_cons_succ]
      refine ⟨⟨j + 1, ?_, by omega, h⟩, by omega⟩
      have e : strEq (D2.read (j : Int)).1 (bs (leafL n j (part s j))) = decide (∀ i : Nat, i < j + 1 → (D2.read (i : Int)).1 = leaf n i (part s i)) := by
        rw [strEq_iff, decide_eq_decide, ← hlf j hj12]
        constructor
        · intro hh i hi
          by_cases hij : i = j
          · subst hij; exact hh
          · exact hall i (by omega)
        · intro hh; exact hh j (by omega)
      rw [e]
    · refine ⟨⟨j + 1, ?_, by omega, hs2⟩, by omega⟩
      have e : decide (∀ i : Nat, i < j + 1 → (D2.read (i : Int)).1 = leaf n i (part s i)) = false := decide_eq_false (fun hh => hnot fun i hi => hh i (by omega))
      rw [e]
  · have hjc : j = cnt s.size := by omega
    subst hjc
    rw [← h1]
    have hem : (⟨#[]⟩ : ByteArray) = .empty := rfl
    cases ok with
    | true =>
      rw [h2 rfl, strEq_iff, decide_eq_true rfl]
      simp only [nn_some, add_mk, Nat.zero_add, Nat.add_zero, Nat.reduceAdd, Nat.reduceMul, Option.isNone_some, Option.isNone_none, br_true, br_false, Bool.not_true, Bool.not_false, xI_eq, xB_eq, xS_eq, xP_eq, xL_eq, x0_eq, x2_eq, x3_eq, chk_eq, true_and, and_true, List.set_cons_zero, List.set_cons_succ, List.eraseIdx_cons_zero, List.eraseIdx_cons_succ]
      simp only [beq_self_eq_true, br_true]
      exact hK _ hs2.drop
    | false =>
      rw [h3 rfl, hem, strEq_iff, strEq_iff, decide_eq_true (rfl : ByteArray.empty = ByteArray.empty)]
      simp only [nn_some, add_mk, Nat.zero_add, Nat.add_zero, Nat.reduceAdd, Nat.reduceMul, Option.isNone_some, Option.isNone_none, br_true, br_false, Bool.not_true, Bool.not_false, xI_eq, xB_eq, xS_eq, xP_eq, xL_eq, x0_eq, x2_eq, x3_eq, chk_eq, true_and, and_true, List.set_cons_zero, List.set_cons_succ, List.eraseIdx_cons_zero, List.eraseIdx_cons_succ]
      simp only [beq_self_eq_true, br_true]
      exact hK _ hs2.drop

theorem Crash_ok {a0 : Option Addr} {n0 c0 : Nat} {x0 : List Value} {a1 : ByteArray} {a2 a3 a4 : Int} (ro0 : Ro W a0 n0 1 x0) (el0 : Elems [.s] n0 x0) (mx0 : n0 ≤ maxLen) (w1 : a1.size ≤ reachBytes) (_ : (Lit.int .u64 a2).wf = true) (_ : (Lit.int .i64 a3).wf = true) (_ : (Lit.int .i64 a4).wf = true) :
    bondstorelaw05_StampCrash.u [.slice a0 n0 c0, .string a1, .int .u64 a2, .int .i64 a3, .int .i64 a4] (fun v w' => v = .bool true ∧ Below W.heap.size W w') W := by
  obtain ⟨ss, h1, h2, h3⟩ := elems_str el0 ro0.1
  subst h2
  unfold bondstorelaw05_StampCrash.u
  exact Crash_spec (K := fun v w' => v = .bool true ∧ Below W.heap.size W w') (St.start W) ro0 mx0 w1 (fun w' h => ⟨rfl, h.below⟩)
end
end Go.Sep
