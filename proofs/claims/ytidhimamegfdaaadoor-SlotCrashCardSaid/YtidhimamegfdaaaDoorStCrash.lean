/- The law StampCrash. -/
import Derived.Test.YtidhimamegfdaaaDoorRef2
import Derived.Test.YtidhimamegfdaaaDoorLaTorn
namespace Go.Sep
open Go.Den Go.RowKit Go.Prog Go.Plat
set_option linter.unusedSimpArgs false
set_option linter.unusedVariables false

theorem valL_inj : ∀ (a b : List UInt8), a.length = b.length → valL a = valL b → a = b
  | [], [], _, _ => rfl
  | [], _ :: _, h, _ => by simp at h
  | _ :: _, [], h, _ => by simp at h
  | c :: a, d :: b, h, hv => by
    have hc := c.toNat_lt
    have hd := d.toNat_lt
    simp only [valL] at hv
    have h1 : c.toNat = d.toNat := by omega
    rw [valL_inj a b (by simpa using h) (by omega), UInt8.toNat_inj.1 h1]

/-- Eight bytes that tell a number that can be are that number's. -/
theorem numL_eq {l : List UInt8} {n : Int} (hl : l.length = 8) (hn : 1 ≤ n ∧ n ≤ 1152921504606846976) (h : numL l = n) : l = le .i64 8 n := by
  have hv := valL_lt l
  have h8 : (256 : Nat) ^ 8 = 18446744073709551616 := rfl
  rw [hl, h8] at hv
  have hval : (valL l : Int) = n := by
    unfold numL at h
    simp [IntKind.wrap, IntKind.bits, IntKind.signed] at h
    split at h <;> omega
  obtain ⟨m, rfl⟩ := Int.eq_ofNat_of_zero_le (show 0 ≤ n by omega)
  refine valL_inj _ _ (by rw [hl, le_length]) ?_
  rw [valL_le m 8 (by omega), h8, Nat.mod_eq_of_lt (by omega)]
  omega

theorem readV_some {l : List UInt8} {n j : Int} {d : ByteArray} (h : readV l = some (n, j, d)) : l.length = 128 ∧ sM l ≤ 104 ∧ sTail l = sN l ∧ n = sN l ∧ j = sI l ∧ Good (sN l) (sI l) (bs (sD l)) := by
  unfold readV at h
  split at h
  · cases h
  rename_i h1
  split at h
  · cases h
  split at h
  · cases h
  rename_i h3
  split at h
  · cases h
  rename_i h4
  split at h
  · cases h
  split at h
  · cases h
  rename_i h6
  cases h
  exact ⟨Decidable.not_not.1 h1, by omega, Decidable.not_not.1 h4, rfl, rfl, Decidable.not_not.1 h6⟩

theorem sTail_eq {l : List UInt8} (h : sM l ≤ 104) (hl : l.length = 128) : sTail l = numL (l.drop 120) := by
  unfold sTail sRest
  rw [List.drop_drop, List.drop_drop, List.drop_drop, List.drop_drop, List.drop_drop, List.take_of_length_le (by rw [List.length_drop]; omega)]
  congr 2
  omega

theorem numOf_le {D : Disk} : ∀ j i : Nat, i < j → numOf (hd8 (D.read (i : Int)).1) ≤ grTo D j ∧ numOf (tl8 (D.read (i : Int)).1) ≤ grTo D j
  | 0, i, h => by omega
  | j + 1, i, h => by
    have hm : ∀ a b : Int, a ≤ max2 a b ∧ b ≤ max2 a b := fun a b => by unfold max2; split <;> omega
    simp only [grTo]
    have h1 := hm (max2 (grTo D j) (numOf (hd8 (D.read (j : Int)).1))) (numOf (tl8 (D.read (j : Int)).1))
    have h2 := hm (grTo D j) (numOf (hd8 (D.read (j : Int)).1))
    by_cases hij : i = j
    · subst hij; exact ⟨by omega, by omega⟩
    · have := numOf_le (D := D) j i (by omega)
      exact ⟨by omega, by omega⟩

theorem numOf_in (s : ByteArray) : 0 ≤ numOf s ∧ numOf s ≤ 1152921504606846976 := by unfold numOf; split <;> omega

theorem grTo_in (D : Disk) : ∀ j, 0 ≤ grTo D j ∧ grTo D j ≤ 1152921504606846976
  | 0 => by simp [grTo]
  | j + 1 => by
    have h1 := grTo_in D j
    have h2 := numOf_in (hd8 (D.read (j : Int)).1)
    have h3 := numOf_in (tl8 (D.read (j : Int)).1)
    simp only [grTo]
    unfold max2
    split <;> split <;> omega

/-- An old sector never bears a number above the greatest. -/
theorem old_head {n : Int} {x : ByteArray} (hx : x.size = 128) (hn : 1 ≤ n ∧ n ≤ 1152921504606846976) (ho : numOf (hd8 x) < n) : numL (x.data.toList.take 8) ≠ n := by
  intro h
  have e : (hd8 x).data.toList = x.data.toList.take 8 := by unfold hd8; rw [extract_toList]; rfl
  unfold numOf at ho
  rw [e, h, if_pos ⟨hn.1, hn.2⟩] at ho
  omega

theorem old_tail {n : Int} {x : ByteArray} (hx : x.size = 128) (hn : 1 ≤ n ∧ n ≤ 1152921504606846976) (ho : numOf (tl8 x) < n) : numL (x.data.toList.drop 120) ≠ n := by
  intro h
  have e : (tl8 x).data.toList = x.data.toList.drop 120 := by
    unfold tl8
    rw [hx, extract_toList, List.take_of_length_le (by rw [List.length_drop, toList_length, hx]; omega)]
  unfold numOf at ho
  rw [e, h, if_pos ⟨hn.1, hn.2⟩] at ho
  omega

/-- Whatever a crash leaves of a leaf over an old sector: read by the leaf's number it is the leaf. -/
theorem torn_leaf {n m j : Int} {i : Nat} {s d old : ByteArray} {c : Nat} (hi : i < 4096) (hn : 1 ≤ n ∧ n ≤ 1152921504606846976) (hx : old.size = 128) (ho2 : numOf (tl8 old) < n) (hc : c ≤ 128)
    (hv : readV ((leaf n i (part s i)).extract 0 c ++ old.extract c old.size).data.toList = some (n, j, d)) : (leaf n i (part s i)).extract 0 c ++ old.extract c old.size = leaf n i (part s i) := by
  have hg : Good n i (part s i) := ⟨hn.1, hn.2, by omega, by omega, part_size s i⟩
  have hls := leaf_size hg
  obtain ⟨h1, h2, h3, h4, _, _⟩ := readV_some hv
  have htail : numL (((leaf n i (part s i)).extract 0 c ++ old.extract c old.size).data.toList.drop 120) = n := by rw [← sTail_eq h2 h1, h3, ← h4]
  have hA : ((leaf n i (part s i)).extract 0 c).data.toList = (leaf n i (part s i)).data.toList.take c := by rw [extract_toList]; rfl
  have hB : (old.extract c old.size).data.toList = old.data.toList.drop c := by rw [extract_toList, List.take_of_length_le (by rw [List.length_drop, toList_length]; omega)]
  have hX : ((leaf n i (part s i)).extract 0 c ++ old.extract c old.size).data.toList = (leaf n i (part s i)).data.toList.take c ++ old.data.toList.drop c := by
    rw [ByteArray.data_append, Array.toList_append, hA, hB]
  have hll : (leaf n i (part s i)).data.toList.length = 128 := hls
  have hol : old.data.toList.length = 128 := hx
  have hlt : ((leaf n i (part s i)).data.toList.take c).length = c := by rw [List.length_take, hll]; omega
  apply bytes_ext
  rw [hX] at htail ⊢
  have hleaf : (leaf n i (part s i)).data.toList = leafL n i (part s i) := by unfold leaf; rw [if_pos hg]; rfl
  by_cases hc120 : c ≤ 120
  · exfalso
    rw [List.drop_append, hlt, List.drop_of_length_le (by omega), List.nil_append, List.drop_drop] at htail
    rw [show c + (120 - c) = 120 from by omega] at htail
    exact old_tail hx hn ho2 htail
  · have hdl : ((leaf n i (part s i)).data.toList.take c ++ old.data.toList.drop c).length = 128 := by rw [List.length_append, hlt, List.length_drop, hol]; omega
    have h8 := numL_eq (by rw [List.length_drop, hdl]) hn htail
    have hl120 : (leaf n i (part s i)).data.toList.drop 120 = le .i64 8 n := by
      rw [hleaf]
      unfold leafL
      have : (pre n i (part s i) ++ le32 (sum32 0 (pre n i (part s i)))).length = 120 := by rw [List.length_append, pre_length (part_size s i)]; rfl
      rw [← this, List.drop_left]
    refine (List.take_append_drop 120 _).symm.trans (Eq.trans ?_ (List.take_append_drop 120 _))
    have e3 : ((leaf n i (part s i)).data.toList.take c ++ old.data.toList.drop c).take 120 = (leaf n i (part s i)).data.toList.take 120 := by
      rw [List.take_append_of_le_length (by omega), List.take_take, show min 120 c = 120 from by omega]
    rw [h8, hl120, e3]
end Go.Sep
