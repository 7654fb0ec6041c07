/- Layer 5: what was laid is read, and taken: plain facts. -/
import Derived.Test.YtidhimamegfdaaaDoorSt6
import Derived.Test.YtidhimamegfdaaaDoorStRoom
namespace Go.Sep
open Go.Den Go.RowKit Go.Prog Go.Plat
set_option linter.unusedSimpArgs false
set_option linter.unusedVariables false

theorem byteOf_nat (m i : Nat) (hi : i < 8) : (byteOf .i64 (m : Int) i).toNat = m / 256 ^ i % 256 := by
  have hp : (256 : Nat) ^ i = 2 ^ (8 * i) := by rw [show (256 : Nat) = 2 ^ 8 from rfl, ← Nat.pow_mul]
  have e1 : shr .i64 (m : Int) (8 * (i : Int)) = ((m / 256 ^ i : Nat) : Int) := by
    unfold shr
    have h1 : (8 * (i : Int)).toNat = 8 * i := by omega
    have h2 : min (8 * i) IntKind.i64.bits = 8 * i := by show min (8 * i) 64 = _; omega
    rw [h1, h2, hp, Int.fdiv_eq_ediv_of_nonneg _ (Int.le_of_lt (Int.pow_pos (by decide)))]
    push_cast
    rfl
  have e2 : IntKind.u8.wrap ((m / 256 ^ i : Nat) : Int) = ((m / 256 ^ i % 256 : Nat) : Int) := by
    generalize m / 256 ^ i = z
    simp [IntKind.wrap, IntKind.bits, IntKind.signed]
  unfold byteOf
  rw [e1, e2, Int.toNat_natCast, UInt8.toNat_ofNat_of_lt' (Nat.mod_lt _ (by decide))]

theorem le_succ (k : IntKind) (w : Nat) (n : Int) : le k (w + 1) n = le k w n ++ [byteOf k n w] := by
  unfold le; rw [List.range_succ, List.map_append]; rfl

theorem valL_le (m : Nat) : ∀ w, w ≤ 8 → valL (le .i64 w (m : Int)) = m % 256 ^ w
  | 0, _ => by simp [le, valL, Nat.mod_one]
  | w + 1, h => by
    rw [le_succ, valL_append, valL_le m w (by omega), byteOf_nat m w (by omega), le_length, Nat.mod_pow_succ, Nat.mul_comm]

theorem numL_le8 {n : Int} (h : 0 ≤ n ∧ n ≤ 1152921504606846976) : numL (le .i64 8 n) = n := by
  obtain ⟨m, rfl⟩ := Int.eq_ofNat_of_zero_le h.1
  unfold numL
  rw [valL_le m 8 (by omega)]
  have h8 : (256 : Nat) ^ 8 = 18446744073709551616 := rfl
  rw [h8, Nat.mod_eq_of_lt (by omega), wrap_id (by omega)]

theorem valL_le2 {m : Nat} (h : m < 65536) : valL (le .i64 2 (m : Int)) = m := by
  rw [valL_le m 2 (by omega)]
  exact Nat.mod_eq_of_lt h

/-- What a leaf's bytes are, part by part. -/
theorem readV_leaf {n i : Int} {s : ByteArray} (h : Good n i s) : readV (leafL n i s) = some (n, i, s) := by
  obtain ⟨h1, h2, h3, h4, h5⟩ := h
  have hl : (leafL n i s).length = 128 := leafL_length h5
  have hpl : (pre n i s).length = 116 := pre_length h5
  have hd : s.data.toList.length = s.size := rfl
  have hc : (le32 (sum32 0 (pre n i s))).length = 4 := le_length _ _ _
  have hshape : leafL n i s = le .i64 8 n ++ (le .i64 2 i ++ (le .i64 2 s.size ++ (s.data.toList ++ (List.replicate (104 - s.size) 0 ++ (le32 (sum32 0 (pre n i s)) ++ le .i64 8 n))))) := by
    simp only [leafL, pre, List.append_assoc]
  have t120 : (leafL n i s).take 120 = pre n i s ++ le32 (sum32 0 (pre n i s)) := by
    unfold leafL
    rw [List.take_append_of_le_length (by rw [List.length_append, hpl, hc]; omega), List.take_of_length_le (by rw [List.length_append, hpl, hc]; omega)]
  have hh : holdsL ((leafL n i s).take 120) = true := by
    rw [t120]
    unfold holdsL
    have hlen : (pre n i s ++ le32 (sum32 0 (pre n i s))).length = 120 := by rw [List.length_append, hpl, hc]
    rw [hlen, show 120 - 4 = (pre n i s).length from by rw [hpl], List.take_left, List.drop_left, beq_self_eq_true]
    rfl
  have tl : ∀ (a b : List UInt8) (m : Nat), a.length = m → (a ++ b).take m = a := fun a b m hm => by subst hm; exact List.take_left
  have dl : ∀ (a b : List UInt8) (m : Nat), a.length = m → (a ++ b).drop m = b := fun a b m hm => by subst hm; exact List.drop_left
  have d8 : (leafL n i s).drop 8 = le .i64 2 i ++ (le .i64 2 s.size ++ (s.data.toList ++ (List.replicate (104 - s.size) 0 ++ (le32 (sum32 0 (pre n i s)) ++ le .i64 8 n)))) := by rw [hshape, dl _ _ _ (le_length _ _ _)]
  have d10 : ((leafL n i s).drop 8).drop 2 = le .i64 2 s.size ++ (s.data.toList ++ (List.replicate (104 - s.size) 0 ++ (le32 (sum32 0 (pre n i s)) ++ le .i64 8 n))) := by rw [d8, dl _ _ _ (le_length _ _ _)]
  have hr : sRest (leafL n i s) = s.data.toList ++ (List.replicate (104 - s.size) 0 ++ (le32 (sum32 0 (pre n i s)) ++ le .i64 8 n)) := by unfold sRest; rw [d10, dl _ _ _ (le_length _ _ _)]
  have eN : sN (leafL n i s) = n := by unfold sN; rw [hshape, tl _ _ _ (le_length _ _ _), numL_le8 ⟨by omega, h2⟩]
  have eI : sI (leafL n i s) = i := by
    unfold sI
    rw [d8, tl _ _ _ (le_length _ _ _), numL_small (by rw [le_length]; omega)]
    obtain ⟨m, rfl⟩ := Int.eq_ofNat_of_zero_le h3
    rw [valL_le2 (by omega)]
  have eM : sM (leafL n i s) = s.size := by
    unfold sM
    rw [d10, tl _ _ _ (le_length _ _ _), valL_le2 (by omega)]
  have eD : sD (leafL n i s) = s.data.toList := by unfold sD; rw [eM, hr, tl _ _ _ hd]
  have dr : (sRest (leafL n i s)).drop s.size = List.replicate (104 - s.size) 0 ++ (le32 (sum32 0 (pre n i s)) ++ le .i64 8 n) := by rw [hr, dl _ _ _ hd]
  have eZ : sZ (leafL n i s) = List.replicate (104 - s.size) 0 := by unfold sZ; rw [eM, dr, tl _ _ _ (by simp)]
  have eT : sTail (leafL n i s) = n := by
    unfold sTail
    rw [eM, dr, dl _ _ _ (by simp), dl _ _ _ hc, List.take_of_length_le (by rw [le_length]; omega), numL_le8 ⟨by omega, h2⟩]
  have hg : Good (sN (leafL n i s)) (sI (leafL n i s)) (bs (sD (leafL n i s))) := by
    rw [eN, eI, eD, bs_data]; exact ⟨h1, h2, h3, h4, h5⟩
  unfold readV
  rw [if_neg (fun hx => hx hl), if_neg (by rw [hh]; exact Bool.noConfusion), if_neg (by rw [eM]; omega), if_neg (fun hx => hx (by rw [eT, eN])), if_neg (fun hx => hx (by rw [eZ]; simp)), if_neg (fun hx => hx hg), eN, eI, eD, bs_data]

theorem readV_zeros : readV (zeros 128).data.toList = none := by decide +kernel

theorem pad_128 {s : ByteArray} (h : s.size = 128) : Disk.pad s = s := by
  unfold Disk.pad
  rw [h]
  apply bytes_ext
  rw [ByteArray.data_append, Array.toList_append]
  simp [zeros]

/-- What is laid is there. -/
theorem layF_in {at' number : Int} {s : ByteArray} (hnum : 1 ≤ number ∧ number ≤ 1152921504606846976) (hat : 0 ≤ at') : ∀ (n i : Nat) {D : Disk}, D.arm = 0 → at' + i + n ≤ D.safe.length → i + n ≤ 4096 →
    ∀ q, i ≤ q → q < i + n → (layF at' number s D i n).1.now (at' + q) = leaf number q (part s q)
  | 0, i, D, ha, hr, hi, q, h1, h2 => by omega
  | n + 1, i, D, ha, hr, hi, q, h1, h2 => by
    have hg : Good number i (part s i) := ⟨hnum.1, hnum.2, by omega, by omega, part_size s i⟩
    have hsz := leaf_size hg
    have hi' : D.is (at' + i) := ⟨by omega, by omega⟩
    have hbad : ¬ (¬ D.is (at' + i) ∨ 128 < (leaf number i (part s i)).size) := by
      rintro (hh | hh)
      · exact hh hi'
      · omega
    have hw : D.write (at' + i) (leaf number i (part s i)) = ({ Go.Plat.Disk.tick D with later := D.later ++ [(at' + i, Disk.pad (leaf number i (part s i)))] }, 0) := by
      rw [Dk.write0 ha, if_neg hbad]
    have h0 : (D.write (at' + i) (leaf number i (part s i))).2 = 0 := by rw [hw]
    have hsafe := (write_len D (at' + i) (leaf number i (part s i))).1
    have harm := Dk.write0_arm ha (at' + i) (leaf number i (part s i))
    unfold layF
    rw [if_neg (by rw [h0]; exact fun hh => hh rfl)]
    by_cases hq : q = i
    · subst hq
      have := (layF0 hnum hat (s := s) n (q + 1) (D := (D.write (at' + q) (leaf number q (part s q))).1) harm (by rw [hsafe]; omega) (by omega)).2.2.2.2 (at' + q) (by omega)
      rw [this, Dk.now_write0 ha, if_pos ⟨⟨hi', by omega⟩, rfl⟩, pad_128 hsz]
    · exact layF_in hnum hat (s := s) n (i + 1) harm (by rw [hsafe]; omega) (by omega) q (by omega) (by omega)

theorem takeF_all {D : Disk} {at' number : Int} {size : Nat} {s : ByteArray} : ∀ (n i : Nat), (∀ q, i ≤ q → q < i + n → readV (D.read (at' + q)).1.data.toList = some (number, (q : Int), part s q) ∧ (part s q).size = min (size - 104 * q) 104) →
    takeF D at' number size i n = some ((s.data.toList.drop (104 * i)).take (104 * n))
  | 0, i, _ => by simp [takeF]
  | n + 1, i, h => by
    obtain ⟨h1, h2⟩ := h i (Nat.le_refl _) (by omega)
    rw [takeF_succ, h1]
    dsimp only
    rw [if_pos ⟨rfl, rfl, h2⟩, takeF_all n (i + 1) (fun q hq hq2 => h q (by omega) (by omega))]
    have e : (part s i).data.toList = (s.data.toList.drop (104 * i)).take 104 := by
      unfold part
      rw [extract_toList]; congr 1; omega
    rw [e, Option.map_some]
    congr 1
    rw [show 104 * (n + 1) = 104 + 104 * n from by omega, List.take_add, List.drop_drop, show 104 * i + 104 = 104 * (i + 1) from by omega]

theorem takeF_none {D : Disk} {at' number : Int} {size : Nat} : ∀ (n i q : Nat), i ≤ q → q < i + n →
    (∀ m j d, readV (D.read (at' + q)).1.data.toList = some (m, j, d) → ¬ (m = number ∧ j = (q : Int) ∧ d.size = min (size - 104 * q) 104)) → takeF D at' number size i n = none
  | 0, i, q, h1, h2, _ => by omega
  | n + 1, i, q, h1, h2, hbad => by
    rw [takeF_succ]
    by_cases hq : q = i
    · subst hq
      cases hv : readV (D.read (at' + (q : Int))).1.data.toList with
      | none => rfl
      | some y =>
        obtain ⟨m, j, d⟩ := y
        dsimp only
        rw [if_neg (hbad m j d hv)]
    · have ih := takeF_none (D := D) (at' := at') (number := number) (size := size) n (i + 1) q (by omega) (by omega) hbad
      split
      · rfl
      · split
        · rw [ih]; rfl
        · rfl
end Go.Sep
