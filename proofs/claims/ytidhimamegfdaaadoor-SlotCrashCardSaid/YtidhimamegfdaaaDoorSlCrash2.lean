/- The law SlotCrash: the walk. -/
import Derived.Test.YtidhimamegfdaaaDoorSlCrash
namespace Go.Sep
open Go.Den Go.RowKit Go.Prog Go.Plat
set_option linter.unusedSimpArgs false
set_option linter.unusedVariables false

theorem put_later {n : Nat} {D : Disk} {which number : Int} {s : ByteArray} (h : Calm n D) (h12 : 12 ≤ n) (h4096 : n ≤ 4096) (hnum : 1 ≤ number ∧ number ≤ 1152921504606846976) (hl : cnt s.size ≤ pSize n) : (put D n which number s).1.later = [] := by
  have hin := slotAt_in h12 which
  have e : lay D (slotAt n which) ((slotAt n which + pSize n : Nat) : Int) number s = layF (slotAt n which) number s D 0 (cnt s.size) := by
    unfold lay
    rw [if_neg (by rw [h.len]; omega), if_neg (by omega)]
  obtain ⟨l1, l2, _, _, _⟩ := layF0 (at' := ((slotAt n which : Nat) : Int)) (number := number) (s := s) hnum (by omega) (cnt s.size) 0 (D := D) h.arm (by rw [h.len]; omega) (by omega)
  unfold put
  rw [e, if_neg (fun hh => hh l1), Dk.sync0 l2]

theorem numOf_zeros : numOf (hd8 (zeros 128)) = 0 ∧ numOf (tl8 (zeros 128)) = 0 := by decide +kernel

theorem hd8_list (x : ByteArray) : (hd8 x).data.toList = x.data.toList.take 8 := by unfold hd8; rw [extract_toList]; rfl
theorem tl8_list {x : ByteArray} (h : x.size = 128) : (tl8 x).data.toList = x.data.toList.drop 120 := by
  unfold tl8
  rw [h, extract_toList, List.take_of_length_le (by rw [List.length_drop, toList_length, h]; omega)]

theorem take_app {α : Type} (a b : List α) (m : Nat) (h : a.length = m) : (a ++ b).take m = a := by subst h; exact List.take_left
theorem drop_app {α : Type} (a b : List α) (m : Nat) (h : a.length = m) : (a ++ b).drop m = b := by subst h; exact List.drop_left

theorem leafL_take8 {n i : Int} {s : ByteArray} : (leafL n i s).take 8 = le .i64 8 n := by
  unfold leafL pre
  simp only [List.append_assoc]
  exact take_app _ _ 8 (le_length _ _ _)

theorem leafL_drop120 {n i : Int} {s : ByteArray} (hs : s.size ≤ 104) : (leafL n i s).drop 120 = le .i64 8 n := by
  unfold leafL
  exact drop_app _ _ 120 (by rw [List.length_append, pre_length hs]; rfl)

/-- Ends of a leaf. -/
theorem leaf_ends {n i : Int} {s : ByteArray} (h : Good n i s) : numOf (hd8 (leaf n i s)) = n ∧ numOf (tl8 (leaf n i s)) = n := by
  have hls := leaf_size h
  have hl : (leaf n i s).data.toList = leafL n i s := by unfold leaf; rw [if_pos h]; rfl
  unfold numOf
  rw [hd8_list, tl8_list hls, hl, leafL_take8, leafL_drop120 h.2.2.2.2, numL_le8 ⟨by have := h.1; omega, h.2.1⟩, if_pos ⟨h.1, h.2.1⟩]
  exact ⟨rfl, rfl⟩

theorem take_mix {α : Type} (A : List α) (z : α) (c n m : Nat) (hA : A.length = n) (hc : c ≤ n) (hm : m ≤ n) : (A.take c ++ (List.replicate n z).drop c).take m = (A.take m).take (min c m) ++ List.replicate (m - min c m) z := by
  rw [List.take_append, List.take_take, List.length_take, hA, List.drop_replicate, List.take_replicate, List.take_take, show min m c = min (min c m) m from by omega, show min (m - min c n) (n - c) = m - min (min c m) m from by omega, show m - min c m = m - min (min c m) m from by omega]

theorem drop_mix {α : Type} (A : List α) (z : α) (c n k : Nat) (hA : A.length = n) (hc : c ≤ n) (hk : k ≤ n) : (A.take c ++ (List.replicate n z).drop c).drop k = (A.drop k).take (c - k) ++ List.replicate (n - k - (c - k)) z := by
  rw [List.drop_append, List.drop_take, List.length_take, hA, List.drop_drop, List.drop_replicate, show n - (c + (k - min c n)) = n - k - (c - k) from by omega]

theorem zeros_list (n : Nat) : (zeros n).data.toList = List.replicate n 0 := by unfold zeros; rfl

theorem le2 : le .i64 8 2 = [2, 0, 0, 0, 0, 0, 0, 0] := by decide +kernel

theorem two_small : ∀ k, k ≤ 8 → numOf (bs (([2, 0, 0, 0, 0, 0, 0, 0] : List UInt8).take k ++ List.replicate (8 - k) 0)) ≤ 2 := fun k hk => by
  match k, hk with
  | 0, _ => decide +kernel
  | 1, _ => decide +kernel
  | 2, _ => decide +kernel
  | 3, _ => decide +kernel
  | 4, _ => decide +kernel
  | 5, _ => decide +kernel
  | 6, _ => decide +kernel
  | 7, _ => decide +kernel
  | 8, _ => decide +kernel

/-- The ends of a first part of a leaf, with zeros behind. -/
theorem mix_ends {n i : Int} {s X : ByteArray} {c : Nat} (hg : Good n i s) (hc : c ≤ 128) (h : X = (leaf n i s).extract 0 c ++ (zeros 128).extract c (zeros 128).size) :
    hd8 X = bs ((le .i64 8 n).take (min c 8) ++ List.replicate (8 - min c 8) 0) ∧ tl8 X = bs ((le .i64 8 n).take (c - 120) ++ List.replicate (8 - (c - 120)) 0) := by
  have hl : (leaf n i s).data.toList = leafL n i s := by unfold leaf; rw [if_pos hg]; rfl
  have hll : (leafL n i s).length = 128 := leafL_length hg.2.2.2.2
  have hX : X.data.toList = (leafL n i s).take c ++ (List.replicate 128 (0 : UInt8)).drop c := by
    have e2 : ((zeros 128).extract c (zeros 128).size).data.toList = (List.replicate 128 (0 : UInt8)).drop c := by
      rw [extract_toList, List.take_of_length_le (by rw [List.length_drop, toList_length]; exact Nat.le_refl _), zeros_list]
    rw [h, ByteArray.data_append, Array.toList_append, e2, extract_toList, List.drop_zero, Nat.sub_zero, hl]
  have hXs : X.size = 128 := by
    rw [← toList_length, hX, List.length_append, List.length_take, List.length_drop, List.length_replicate, hll]; omega
  have t1 := take_mix (leafL n i s) (0 : UInt8) c 128 8 hll hc (by omega)
  have t2 := drop_mix (leafL n i s) (0 : UInt8) c 128 120 hll hc (by omega)
  rw [leafL_take8] at t1
  rw [leafL_drop120 hg.2.2.2.2, show 128 - 120 - (c - 120) = 8 - (c - 120) from by omega] at t2
  rw [← hX] at t1 t2
  rw [← hd8_list] at t1
  rw [← tl8_list hXs] at t2
  exact ⟨bytes_ext t1, bytes_ext t2⟩

/-- A mix of a leaf of number 2 and an empty sector tells no more than 2. -/
theorem mix_two {i : Nat} {s X : ByteArray} (hi : i < 4096) (hm : Mix (zeros 128) (leaf 2 i (part s i)) X) : numOf (hd8 X) ≤ 2 ∧ numOf (tl8 X) ≤ 2 := by
  have hg : Good 2 (i : Int) (part s i) := ⟨by decide, by decide, by omega, by omega, part_size s i⟩
  have hle := leaf_ends hg
  rcases hm with h | h | ⟨c, hc, h⟩
  · rw [h]; have := numOf_zeros; omega
  · rw [h]; omega
  · obtain ⟨e1, e2⟩ := mix_ends hg hc h
    rw [e1, e2, le2]
    exact ⟨two_small _ (by omega), two_small _ (by omega)⟩

theorem grTo_le {D : Disk} {b : Int} (hb : 0 ≤ b) : ∀ j, (∀ i : Nat, i < j → numOf (hd8 (D.read (i : Int)).1) ≤ b ∧ numOf (tl8 (D.read (i : Int)).1) ≤ b) → grTo D j ≤ b
  | 0, _ => hb
  | j + 1, h => by
    have h1 := grTo_le hb j (fun i hi => h i (by omega))
    have h2 := h j (by omega)
    simp only [grTo]
    unfold max2
    split <;> split <;> omega
end Go.Sep
