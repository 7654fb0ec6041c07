/- Layer 5: laying bytes as sectors; the laws' disk. -/
import Derived.Test.YtidhimamegfdaaaDoorSt1
namespace Go.Sep
open Go.Den Go.RowKit Go.Prog Go.Plat
set_option linter.unusedSimpArgs false
set_option linter.unusedVariables false

theorem bytes_ext {x y : ByteArray} (h : x.data.toList = y.data.toList) : x = y := ByteArray.ext (Array.ext' h)
theorem extract_toList (s : ByteArray) (a b : Nat) : (s.extract a b).data.toList = (s.data.toList.drop a).take (b - a) := by
  rw [ByteArray.data_extract, Array.toList_extract, List.extract_eq_take_drop]
theorem toList_length (s : ByteArray) : s.data.toList.length = s.size := rfl

def part (s : ByteArray) (i : Nat) : ByteArray := s.extract (104 * i) (104 * (i + 1))

theorem part_size (s : ByteArray) (i : Nat) : (part s i).size ≤ 104 := by unfold part; rw [strEx]; omega

theorem rest_head (s : ByteArray) (i m : Nat) (hm : m = min (s.size - 104 * i) 104) : (s.extract (104 * i) s.size).extract 0 m = part s i := by
  apply bytes_ext
  unfold part
  rw [extract_toList, extract_toList, extract_toList, List.drop_zero, List.take_take, List.take_eq_take_iff, List.length_drop, toList_length]
  omega

theorem rest_tail (s : ByteArray) (i m : Nat) (hm : m = min (s.size - 104 * i) 104) : (s.extract (104 * i) s.size).extract m (s.extract (104 * i) s.size).size = s.extract (104 * (i + 1)) s.size := by
  apply bytes_ext
  rw [extract_toList, extract_toList, extract_toList, strEx]
  rw [List.take_of_length_le (by rw [List.length_drop, List.length_take, List.length_drop, toList_length]; omega), List.take_of_length_le (by rw [List.length_drop, toList_length]; omega), List.take_of_length_le (by rw [List.length_drop, toList_length]; omega), List.drop_drop]
  by_cases h : 104 ≤ s.size - 104 * i
  · congr 1; omega
  · rw [List.drop_of_length_le (by rw [toList_length]; omega), List.drop_of_length_le (by rw [toList_length]; omega)]

/-- Leaves written, from the 'i'-th on, 'n' of them. -/
def layF (at' number : Int) (s : ByteArray) : Disk → Nat → Nat → Disk × Int
  | D, _, 0 => (D, 0)
  | D, i, n + 1 => if (D.write (at' + i) (leaf number i (part s i))).2 ≠ 0 then D.write (at' + i) (leaf number i (part s i)) else layF at' number s (D.write (at' + i) (leaf number i (part s i))).1 (i + 1) n

def lay (D : Disk) (at' to number : Int) (s : ByteArray) : Disk × Int :=
  if number < 1 ∨ 1152921504606846976 < number ∨ at' < 0 ∨ (D.safe.length : Int) < to ∨ to < at' then (D, 1)
  else if to - at' < (cnt s.size : Int) then (D, 3) else layF at' number s D 0 (cnt s.size)

theorem layF_ok {at' number : Int} {s : ByteArray} : ∀ (n i : Nat) {D : Disk}, D.Ok → D.later.length + n < 1099511627776 → (layF at' number s D i n).1.Ok ∧ (layF at' number s D i n).1.safe = D.safe ∧ (layF at' number s D i n).1.later.length ≤ D.later.length + n
  | 0, i, D, h, hl => ⟨h, rfl, Nat.le_refl _⟩
  | n + 1, i, D, h, hl => by
    have h1 := write_len D (at' + i) (leaf number i (part s i))
    have h2 := write_ok h (at' + i) (leaf number i (part s i)) (by omega)
    unfold layF
    split
    · exact ⟨h2, h1.1, by omega⟩
    · have := layF_ok (at' := at') (number := number) (s := s) n (i + 1) h2 (by omega)
      exact ⟨this.1, this.2.1.trans h1.1, by omega⟩

theorem lay_ok {D : Disk} {at' to number : Int} {s : ByteArray} (h : D.Ok) (hl : D.later.length + cnt s.size < 1099511627776) : (lay D at' to number s).1.Ok ∧ (lay D at' to number s).1.safe = D.safe := by
  unfold lay
  split
  · exact ⟨h, rfl⟩
  · split
    · exact ⟨h, rfl⟩
    · have := layF_ok (at' := at') (number := number) (s := s) (cnt s.size) 0 h hl
      exact ⟨this.1, this.2.1⟩

section
variable {W w : World} {L : List HP} {k d : Nat} {D : Disk}

theorem Lay_j1_spec {at' to number : Int} {s : ByteArray} {b : Bool} {K : VK} (h : St W w L) (hk : L[k]? = some (disk d D)) (hok : D.Ok) (hl : D.later.length + 4097 < 1099511627776) (hs : s.size ≤ reachBytes)
    (hb : b = decide (number < 1 ∨ 1152921504606846976 < number ∨ at' < 0 ∨ (D.safe.length : Int) < to ∨ to < at'))
    (hK : ∀ w', St W w' (L.set k (disk d (lay D at' to number s).1)) → K (.int .i64 (lay D at' to number s).2) w') : stamp_Lay.j1 K s to at' number (some ⟨d, 0, none⟩) b w := by
  have hsz : s.size ≤ 140737488351232 := hs
  have hfew := hok.few
  unfold stamp_Lay.j1
  unfold lay at hK
  refine br_of (fun h1 => ?_) (fun h1 => ?_)
  · rw [hb] at h1
    rw [if_pos (of_decide_eq_true h1)] at hK
    refine hK w ?_
    rw [set_same hk]; exact h
  rw [hb] at h1
  have hbad := of_decide_eq_false h1
  rw [if_neg hbad] at hK
  refine Count_spec (by omega) ?_
  simp only [nn_some, add_mk, Nat.zero_add, Nat.add_zero, Nat.reduceAdd, Nat.reduceMul, Option.isNone_some, Option.isNone_none, br_true, br_false, Bool.not_true, Bool.not_false, xI_eq, xB_eq, xS_eq, xP_eq, xL_eq, x0_eq, x2_eq, x3_eq, chk_eq, true_and, and_true, List.set_cons_zero, List.set_cons_succ, List.eraseIdx_cons_zero, List.eraseIdx_cons_succ]
  have ew : IntKind.i64.wrap (to - at') = to - at' := wrap_id (by omega)
  rw [ew]
  refine br_dec (fun h2 => ?_) (fun h2 => ?_)
  · rw [if_pos (by omega)] at hK
    refine hK w ?_
    rw [set_same hk]; exact h
  rw [if_neg (by omega)] at hK
  have hcnt : cnt s.size ≤ 4096 := by omega
  refine ⟨fun us w' => ∃ (j : Nat) (Dj : Disk), us = [.string (s.extract (104 * j) s.size), .int .i64 0, .int .i64 j] ∧ j ≤ cnt s.size ∧ Dj.Ok ∧ Dj.later.length ≤ D.later.length + j ∧ layF at' number s D 0 (cnt s.size) = layF at' number s Dj j (cnt s.size - j) ∧ St W w' (L.set k (disk d Dj)),
    fun us _ => match us with | [_, _, .int _ j] => cnt s.size - j.toNat | _ => 0, ⟨0, D, ?_, Nat.zero_le _, hok, by omega, rfl, by rw [set_same hk]; exact h⟩, ?_⟩
  · have : s.extract (104 * 0) s.size = s := by rw [Nat.mul_zero]; exact ByteArray.extract_zero_size
    rw [this]; rfl
  rintro s2 n5 n6 w2 ⟨j, Dj, he, hj, hok, hlj, hlay, hs⟩
  cases he
  have hk2 : (L.set k (disk d Dj))[k]? = some (disk d Dj) := set_get hk
  have hmin : min2 ((s.extract (104 * j) s.size).size : Int) 104 = ((min (s.size - 104 * j) 104 : Nat) : Int) := by
    rw [strEx]; unfold min2; split <;> omega
  have e5 : IntKind.i64.wrap ((j : Int) + 1) = ((j + 1 : Nat) : Int) := by rw [wrap_id (by omega)]; omega
  have ea : IntKind.i64.wrap (at' + (j : Int)) = at' + j := wrap_id (by omega)
  rw [hmin, e5, ea, strEx]
  have hex : ∀ X : WK, X w2 → chk (0 ≤ ((min (s.size - 104 * j) 104 : Nat) : Int) ∧ ((min (s.size - 104 * j) 104 : Nat) : Int) ≤ ((min s.size s.size - 104 * j : Nat) : Int)) X w2 := fun X hX => ⟨by omega, hX⟩
  have step : j < cnt s.size → ∀ w, St W w (L.set k (disk d (Dj.write (at' + j) (leaf number j (part s j))).1)) → (Dj.write (at' + j) (leaf number j (part s j))).2 ≠ 0 → K (.int .i64 (Dj.write (at' + j) (leaf number j (part s j))).2) w := fun hjc w hs hne => by
    have e : layF at' number s Dj j (cnt s.size - j) = Dj.write (at' + j) (leaf number j (part s j)) := by
      obtain ⟨q, hq⟩ : ∃ q, cnt s.size - j = q + 1 := ⟨cnt s.size - j - 1, by omega⟩
      rw [hq, layF, if_pos hne]
    rw [hlay, e] at hK
    exact hK w hs
  have fin : j < cnt s.size → ∀ w, St W w (L.set k (disk d (Dj.write (at' + j) (leaf number j (part s j))).1)) → (Dj.write (at' + j) (leaf number j (part s j))).2 = 0 →
      ∃ (j' : Nat) (Dj' : Disk), [Value.string (s.extract (104 * (j + 1)) s.size), .int .i64 0, .int .i64 ((j + 1 : Nat) : Int)] = [.string (s.extract (104 * j') s.size), .int .i64 0, .int .i64 j'] ∧ j' ≤ cnt s.size ∧ Dj'.Ok ∧ Dj'.later.length ≤ D.later.length + j' ∧ layF at' number s D 0 (cnt s.size) = layF at' number s Dj' j' (cnt s.size - j') ∧ St W w (L.set k (disk d Dj')) := fun hjc w hs hz => by
    have hw := write_len Dj (at' + j) (leaf number j (part s j))
    refine ⟨j + 1, _, rfl, by omega, write_ok hok _ _ (by omega), by omega, ?_, hs⟩
    rw [hlay]
    obtain ⟨q, hq⟩ : ∃ q, cnt s.size - j = q + 1 := ⟨cnt s.size - j - 1, by omega⟩
    have hq2 : cnt s.size - (j + 1) = q := by omega
    rw [hq, hq2, layF, if_neg (by rw [hz]; exact fun hh => hh rfl)]
  have hpos := cnt_pos s.size
  have body : j < cnt s.size → slStr (s.extract (104 * j) s.size) none (some ((min (s.size - 104 * j) 104 : Nat) : Int)) (fun s3 =>
      chk True (
      stamp_Bytes [.int .i64 number, .int .i64 j, .string s3] (x2 fun v1 v2 => (xS fun s4 =>
      (xI .i64 fun n7 =>
      platter_Disk_Write (some ⟨d, 0, none⟩) (at' + j) s4 (xI .i64 fun n8 =>
      br (n8 != 0) (
      K (.int .i64 n8)) (
      slStr (s.extract (104 * j) s.size) (some ((min (s.size - 104 * j) 104 : Nat) : Int)) none (fun s5 => fun w3 =>
        (∃ (j' : Nat) (Dj' : Disk), [Value.string s5, .int .i64 0, .int .i64 ((j + 1 : Nat) : Int)] = [.string (s.extract (104 * j') s.size), .int .i64 0, .int .i64 j'] ∧ j' ≤ cnt s.size ∧ Dj'.Ok ∧ Dj'.later.length ≤ D.later.length + j' ∧ layF at' number s D 0 (cnt s.size) = layF at' number s Dj' j' (cnt s.size - j') ∧ St W w3 (L.set k (disk d Dj'))) ∧
        cnt s.size - ((j + 1 : Nat) : Int).toNat < cnt s.size - ((j : Nat) : Int).toNat)))) v2) v1))) w2 := fun hjc => by
    unfold slStr
    dsimp only
    refine ⟨⟨by omega, by rw [strEx]; omega⟩, trivial, ?_⟩
    rw [Int.toNat_natCast, rest_head s j _ rfl]
    refine Bytes_spec hs fun w hs => ?_
    simp only [nn_some, add_mk, Nat.zero_add, Nat.add_zero, Nat.reduceAdd, Nat.reduceMul, Option.isNone_some, Option.isNone_none, br_true, br_false, Bool.not_true, Bool.not_false, xI_eq, xB_eq, xS_eq, xP_eq, xL_eq, x0_eq, x2_eq, x3_eq, chk_eq, true_and, and_true, List.set_cons_zero, List.set_cons_succ, List.eraseIdx_cons_zero, List.eraseIdx_cons_succ]
    refine Disk_Write_spec hs hk2 hok fun w hs => ?_
    rw [List.set_set] at hs
    simp only [nn_some, add_mk, Nat.zero_add, Nat.add_zero, Nat.reduceAdd, Nat.reduceMul, Option.isNone_some, Option.isNone_none, br_true, br_false, Bool.not_true, Bool.not_false, xI_eq, xB_eq, xS_eq, xP_eq, xL_eq, x0_eq, x2_eq, x3_eq, chk_eq, true_and, and_true, List.set_cons_zero, List.set_cons_succ, List.eraseIdx_cons_zero, List.eraseIdx_cons_succ]
    refine br_ne (fun hne => ?_) (fun hz => ?_)
    · exact step hjc w hs hne
    · refine ⟨⟨by omega, by rw [strEx]; omega⟩, ?_⟩
      rw [rest_tail s j _ rfl]
      exact ⟨fin hjc w hs hz, by omega⟩
  refine br_eq (fun hj0 => body (by omega)) (fun hj0 => ?_)
  refine br_dec (fun hgt => ?_) (fun hle => ?_)
  · have hc := cnt_lt (n := s.size) (j := j) (by omega)
    exact body (by omega)
  · have hc := cnt_lt (n := s.size) (j := j) (by omega)
    have hjc : j = cnt s.size := by omega
    have e : layF at' number s Dj j (cnt s.size - j) = (Dj, 0) := by rw [hjc, Nat.sub_self]; rfl
    rw [hlay, e] at hK
    exact hK _ hs

theorem Lay_spec {at' to number : Int} {s : ByteArray} {K : VK} (h : St W w L) (hk : L[k]? = some (disk d D)) (hok : D.Ok) (hl : D.later.length + 4097 < 1099511627776) (hs : s.size ≤ reachBytes)
    (hK : ∀ w', St W w' (L.set k (disk d (lay D at' to number s).1)) → K (.int .i64 (lay D at' to number s).2) w') : stamp_Lay (some ⟨d, 0, none⟩) at' to number s K w := by
  unfold stamp_Lay
  refine br_dec (fun h1 => ?_) (fun h1 => ?_)
  · exact Lay_j1_spec h hk hok hl hs (by symm; rw [decide_eq_true_eq]; exact .inl h1) hK
  refine br_dec (fun h2 => ?_) (fun h2 => ?_)
  · exact Lay_j1_spec h hk hok hl hs (by symm; rw [decide_eq_true_eq]; exact .inr (.inl h2)) hK
  refine br_dec (fun h3 => ?_) (fun h3 => ?_)
  · exact Lay_j1_spec h hk hok hl hs (by symm; rw [decide_eq_true_eq]; exact .inr (.inr (.inl h3))) hK
  refine Disk_Sectors_spec h hk ?_
  simp only [nn_some, add_mk, Nat.zero_add, Nat.add_zero, Nat.reduceAdd, Nat.reduceMul, Option.isNone_some, Option.isNone_none, br_true, br_false, Bool.not_true, Bool.not_false, xI_eq, xB_eq, xS_eq, xP_eq, xL_eq, x0_eq, x2_eq, x3_eq, chk_eq, true_and, and_true, List.set_cons_zero, List.set_cons_succ, List.eraseIdx_cons_zero, List.eraseIdx_cons_succ]
  refine br_dec (fun h4 => ?_) (fun h4 => ?_)
  · exact Lay_j1_spec h hk hok hl hs (by symm; rw [decide_eq_true_eq]; exact .inr (.inr (.inr (.inl h4)))) hK
  · refine Lay_j1_spec h hk hok hl hs ?_ hK
    rw [decide_eq_decide]
    omega

/-- The laws' disk: sectors as they were given, all of them safe. -/
theorem disk5_spec {sb : Option Addr} {sn sc : Nat} {ss : List ByteArray} {K : VK} (h : St W w L) (hr : Ro W sb sn 1 (ss.map .string)) (hmx : sn ≤ maxLen)
    (hK : ∀ d D w', D.Ok → D.arm = 0 → D.later = [] → D.safe.length = 12 → St W w' (disk d D :: L) → K (.pointer (some ⟨d, 0, none⟩)) w') : bondstorelaw05_disk sb sn sc K w := by
  have hsl : ss.length = sn := by have := hr.1; simp at this; exact this
  have hmx' : sn ≤ 9223372036854775807 := hmx
  unfold bondstorelaw05_disk
  refine New_spec h fun d w h => ?_
  simp only [nn_some, add_mk, Nat.zero_add, Nat.add_zero, Nat.reduceAdd, Nat.reduceMul, Option.isNone_some, Option.isNone_none, br_true, br_false, Bool.not_true, Bool.not_false, xI_eq, xB_eq, xS_eq, xP_eq, xL_eq, x0_eq, x2_eq, x3_eq, chk_eq, true_and, and_true, List.set_cons_zero, List.set_cons_succ, List.eraseIdx_cons_zero, List.eraseIdx_cons_succ]
  refine ⟨fun us w' => ∃ (j : Nat) (D : Disk), us = [.pointer none, .pointer (some ⟨d, 0, none⟩), .slice sb sn sc, .int .i64 sn, .int .i64 j] ∧ j ≤ sn ∧ D.Ok ∧ D.arm = 0 ∧ D.later.length ≤ min j 12 ∧ D.safe.length = 12 ∧ St W w' (disk d D :: L),
    fun us _ => match us with | [_, _, _, _, .int _ j] => sn - j.toNat | _ => 0, ⟨0, _, rfl, Nat.zero_le _, new_ok 12, rfl, Nat.zero_le _, rfl, h⟩, ?_⟩
  rintro p2 p3 sb2 sn2 sc2 n1 n2 w2 ⟨j, D, he, hj, hok, harm, hlat, hlen, hs⟩
  cases he
  refine br_dec (fun hlt' => ?_) (fun _ => ?_)
  · have hlt : j < ss.length := by omega
    have e5 : IntKind.i64.wrap ((j : Int) + 1) = ((j + 1 : Nat) : Int) := by rw [wrap_id (by omega)]; omega
    refine ixs_ro hr ⟨by omega, hlt'⟩ fun a ha => ?_
    refine ld_ro hs hr ha (v := .string ss[j]) (by rw [List.getElem?_map]; simp [hlt]) ?_
    simp only [nn_some, add_mk, Nat.zero_add, Nat.add_zero, Nat.reduceAdd, Nat.reduceMul, Option.isNone_some, Option.isNone_none, br_true, br_false, Bool.not_true, Bool.not_false, xI_eq, xB_eq, xS_eq, xP_eq, xL_eq, x0_eq, x2_eq, x3_eq, chk_eq, true_and, and_true, List.set_cons_zero, List.set_cons_succ, List.eraseIdx_cons_zero, List.eraseIdx_cons_succ]
    rw [e5]
    generalize hb1 : decide ((j : Int) < 12) = b1
    cases b1
    · exact ⟨⟨j + 1, D, rfl, by omega, hok, harm, by omega, hlen, hs⟩, by omega⟩
    have h12 := of_decide_eq_true hb1
    rw [br_true]
    generalize hb2 : decide ((ss[j].size : Int) ≤ 128) = b2
    cases b2
    · exact ⟨⟨j + 1, D, rfl, by omega, hok, harm, by omega, hlen, hs⟩, by omega⟩
    rw [br_true]
    have hwl := write_len D j ss[j]
    refine Disk_Write_spec (k := 0) hs rfl hok fun w hs => ?_
    simp only [nn_some, add_mk, Nat.zero_add, Nat.add_zero, Nat.reduceAdd, Nat.reduceMul, Option.isNone_some, Option.isNone_none, br_true, br_false, Bool.not_true, Bool.not_false, xI_eq, xB_eq, xS_eq, xP_eq, xL_eq, x0_eq, x2_eq, x3_eq, chk_eq, true_and, and_true, List.set_cons_zero, List.set_cons_succ, List.eraseIdx_cons_zero, List.eraseIdx_cons_succ] at hs ⊢
    exact ⟨⟨j + 1, _, rfl, by omega, write_ok hok _ _ (by omega), Dk.write0_arm harm _ _, by omega, by rw [hwl.1]; exact hlen, hs⟩, by omega⟩
  · refine Disk_Sync_spec (k := 0) hs rfl hok fun w hs => ?_
    simp only [nn_some, add_mk, Nat.zero_add, Nat.add_zero, Nat.reduceAdd, Nat.reduceMul, Option.isNone_some, Option.isNone_none, br_true, br_false, Bool.not_true, Bool.not_false, xI_eq, xB_eq, xS_eq, xP_eq, xL_eq, x0_eq, x2_eq, x3_eq, chk_eq, true_and, and_true, List.set_cons_zero, List.set_cons_succ, List.eraseIdx_cons_zero, List.eraseIdx_cons_succ] at hs ⊢
    refine hK d _ w (sync_ok hok) (Dk.sync0_arm harm) (by rw [Dk.sync0 harm]) (by rw [Dk.sync_len.1]; exact hlen) hs
end
end Go.Sep
