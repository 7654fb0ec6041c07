/- MixA: StCrash, Mix, SlCrash, SlCrash2, SlCrash3, Ls, Mix2, merged: part of the proof: see the last text. -/
import Derived.Test.YtidhimamegfdaaaDoorRefA
import Derived.Test.YtidhimamegfdaaaDoorLaA
import Derived.Test.YtidhimamegfdaaaDoorSlA
/- The law StampCrash. -/
namespace Go.Sep
open Go.Den Go.RowKit Go.Prog Go.Plat
set_option linter.unusedSimpArgs false
set_option linter.unusedVariables false

theorem valL_inj : ∀ (a b : List UInt8), a.length = b.length → valL a = valL b → a = b
  | [], [], _, _ => rfl
  | [], _ :: _, h, _ => by simp at h
  | _ :: _, [], h, _ => by simp at h
  | c :: a, d :: b, h, hv => by
    have hc := c.toNat_lt
    have hd := d.toNat_lt
    simp only [valL] at hv
    have h1 : c.toNat = d.toNat := by omega
    rw [valL_inj a b (by simpa using h) (by omega), UInt8.toNat_inj.1 h1]

/-- Eight bytes that tell a number that can be are that number's. -/
theorem numL_eq {l : List UInt8} {n : Int} (hl : l.length = 8) (hn : 1 ≤ n ∧ n ≤ 1152921504606846976) (h : numL l = n) : l = le .i64 8 n := by
  have hv := valL_lt l
  have h8 : (256 : Nat) ^ 8 = 18446744073709551616 := rfl
  rw [hl, h8] at hv
  have hval : (valL l : Int) = n := by
    unfold numL at h
    simp [IntKind.wrap, IntKind.bits, IntKind.signed] at h
    split at h <;> omega
  obtain ⟨m, rfl⟩ := Int.eq_ofNat_of_zero_le (show 0 ≤ n by omega)
  refine valL_inj _ _ (by rw [hl, le_length]) ?_
  rw [valL_le m 8 (by omega), h8, Nat.mod_eq_of_lt (by omega)]
  omega

theorem readV_some {l : List UInt8} {n j : Int} {d : ByteArray} (h : readV l = some (n, j, d)) : l.length = 128 ∧ sM l ≤ 104 ∧ sTail l = sN l ∧ n = sN l ∧ j = sI l ∧ Good (sN l) (sI l) (bs (sD l)) := by
  unfold readV at h
  split at h
  · cases h
  rename_i h1
  split at h
  · cases h
  split at h
  · cases h
  rename_i h3
  split at h
  · cases h
  rename_i h4
  split at h
  · cases h
  split at h
  · cases h
  rename_i h6
  cases h
  exact ⟨Decidable.not_not.1 h1, by omega, Decidable.not_not.1 h4, rfl, rfl, Decidable.not_not.1 h6⟩

theorem sTail_eq {l : List UInt8} (h : sM l ≤ 104) (hl : l.length = 128) : sTail l = numL (l.drop 120) := by
  unfold sTail sRest
  rw [List.drop_drop, List.drop_drop, List.drop_drop, List.drop_drop, List.drop_drop, List.take_of_length_le (by rw [List.length_drop]; omega)]
  congr 2
  omega

theorem numOf_le {D : Disk} : ∀ j i : Nat, i < j → numOf (hd8 (D.read (i : Int)).1) ≤ grTo D j ∧ numOf (tl8 (D.read (i : Int)).1) ≤ grTo D j
  | 0, i, h => by omega
  | j + 1, i, h => by
    have hm : ∀ a b : Int, a ≤ max2 a b ∧ b ≤ max2 a b := fun a b => by unfold max2; split <;> omega
    simp only [grTo]
    have h1 := hm (max2 (grTo D j) (numOf (hd8 (D.read (j : Int)).1))) (numOf (tl8 (D.read (j : Int)).1))
    have h2 := hm (grTo D j) (numOf (hd8 (D.read (j : Int)).1))
    by_cases hij : i = j
    · subst hij; exact ⟨by omega, by omega⟩
    · have := numOf_le (D := D) j i (by omega)
      exact ⟨by omega, by omega⟩

theorem numOf_in (s : ByteArray) : 0 ≤ numOf s ∧ numOf s ≤ 1152921504606846976 := by unfold numOf; split <;> omega

theorem grTo_in (D : Disk) : ∀ j, 0 ≤ grTo D j ∧ grTo D j ≤ 1152921504606846976
  | 0 => by simp [grTo]
  | j + 1 => by
    have h1 := grTo_in D j
    have h2 := numOf_in (hd8 (D.read (j : Int)).1)
    have h3 := numOf_in (tl8 (D.read (j : Int)).1)
    simp only [grTo]
    unfold max2
    split <;> split <;> omega

/-- An old sector never bears a number above the greatest. -/
theorem old_head {n : Int} {x : ByteArray} (hx : x.size = 128) (hn : 1 ≤ n ∧ n ≤ 1152921504606846976) (ho : numOf (hd8 x) < n) : numL (x.data.toList.take 8) ≠ n := by
  intro h
  have e : (hd8 x).data.toList = x.data.toList.take 8 := by unfold hd8; rw [extract_toList]; rfl
  unfold numOf at ho
  rw [e, h, if_pos ⟨hn.1, hn.2⟩] at ho
  omega

theorem old_tail {n : Int} {x : ByteArray} (hx : x.size = 128) (hn : 1 ≤ n ∧ n ≤ 1152921504606846976) (ho : numOf (tl8 x) < n) : numL (x.data.toList.drop 120) ≠ n := by
  intro h
  have e : (tl8 x).data.toList = x.data.toList.drop 120 := by
    unfold tl8
    rw [hx, extract_toList, List.take_of_length_le (by rw [List.length_drop, toList_length, hx]; omega)]
  unfold numOf at ho
  rw [e, h, if_pos ⟨hn.1, hn.2⟩] at ho
  omega

/-- Whatever a crash leaves of a leaf over an old sector: read by the leaf's number it is the leaf. -/
theorem torn_leaf {n m j : Int} {i : Nat} {s d old : ByteArray} {c : Nat} (hi : i < 4096) (hn : 1 ≤ n ∧ n ≤ 1152921504606846976) (hx : old.size = 128) (ho2 : numOf (tl8 old) < n) (hc : c ≤ 128)
    (hv : readV ((leaf n i (part s i)).extract 0 c ++ old.extract c old.size).data.toList = some (n, j, d)) : (leaf n i (part s i)).extract 0 c ++ old.extract c old.size = leaf n i (part s i) := by
  have hg : Good n i (part s i) := ⟨hn.1, hn.2, by omega, by omega, part_size s i⟩
  have hls := leaf_size hg
  obtain ⟨h1, h2, h3, h4, _, _⟩ := readV_some hv
  have htail : numL (((leaf n i (part s i)).extract 0 c ++ old.extract c old.size).data.toList.drop 120) = n := by rw [← sTail_eq h2 h1, h3, ← h4]
  have hA : ((leaf n i (part s i)).extract 0 c).data.toList = (leaf n i (part s i)).data.toList.take c := by rw [extract_toList]; rfl
  have hB : (old.extract c old.size).data.toList = old.data.toList.drop c := by rw [extract_toList, List.take_of_length_le (by rw [List.length_drop, toList_length]; omega)]
  have hX : ((leaf n i (part s i)).extract 0 c ++ old.extract c old.size).data.toList = (leaf n i (part s i)).data.toList.take c ++ old.data.toList.drop c := by
    rw [ByteArray.data_append, Array.toList_append, hA, hB]
  have hll : (leaf n i (part s i)).data.toList.length = 128 := hls
  have hol : old.data.toList.length = 128 := hx
  have hlt : ((leaf n i (part s i)).data.toList.take c).length = c := by rw [List.length_take, hll]; omega
  apply bytes_ext
  rw [hX] at htail ⊢
  have hleaf : (leaf n i (part s i)).data.toList = leafL n i (part s i) := by unfold leaf; rw [if_pos hg]; rfl
  by_cases hc120 : c ≤ 120
  · exfalso
    rw [List.drop_append, hlt, List.drop_of_length_le (by omega), List.nil_append, List.drop_drop] at htail
    rw [show c + (120 - c) = 120 from by omega] at htail
    exact old_tail hx hn ho2 htail
  · have hdl : ((leaf n i (part s i)).data.toList.take c ++ old.data.toList.drop c).length = 128 := by rw [List.length_append, hlt, List.length_drop, hol]; omega
    have h8 := numL_eq (by rw [List.length_drop, hdl]) hn htail
    have hl120 : (leaf n i (part s i)).data.toList.drop 120 = le .i64 8 n := by
      rw [hleaf]
      unfold leafL
      have : (pre n i (part s i) ++ le32 (sum32 0 (pre n i (part s i)))).length = 120 := by rw [List.length_append, pre_length (part_size s i)]; rfl
      rw [← this, List.drop_left]
    refine (List.take_append_drop 120 _).symm.trans (Eq.trans ?_ (List.take_append_drop 120 _))
    have e3 : ((leaf n i (part s i)).data.toList.take c ++ old.data.toList.drop c).take 120 = (leaf n i (part s i)).data.toList.take 120 := by
      rw [List.take_append_of_le_length (by omega), List.take_take, show min 120 c = 120 from by omega]
    rw [h8, hl120, e3]
end Go.Sep

/- What a crash leaves of writes into unlike sectors. -/
namespace Go.Sep
open Go.Den Go.RowKit Go.Prog Go.Plat
set_option linter.unusedSimpArgs false
set_option linter.unusedVariables false

/-- A sector behind a crash while 'new' was written over 'old'. -/
def Mix (old new X : ByteArray) : Prop := X = old ∨ X = new ∨ ∃ c, c ≤ 128 ∧ X = new.extract 0 c ++ old.extract c old.size

theorem crashed_mix (mask torn x : Int) (hx : 0 ≤ x ∧ x ≤ 128) (safe : List ByteArray) (later : List (Int × ByteArray)) (hn : (later.map (·.1.toNat)).Nodup) (hp : ∀ p ∈ later, 0 ≤ p.1 ∧ p.1 < safe.length) (i : Nat) (hi : i < safe.length) :
    ∀ j, j ≤ later.length → ((∀ k, k < j → ∀ p, later[k]? = some p → p.1.toNat ≠ i) ∧ (crashed mask torn x safe later j)[i]? = safe[i]?) ∨
      ∃ k p, k < j ∧ later[k]? = some p ∧ p.1.toNat = i ∧ ∃ X, (crashed mask torn x safe later j)[i]? = some X ∧ Mix (safe.getD i .empty) p.2 X
  | 0, _ => .inl ⟨fun k hk => by omega, rfl⟩
  | j + 1, hj => by
    have hlt : j < later.length := by omega
    have hget : later[j]? = some later[j] := List.getElem?_eq_getElem hlt
    have ih := crashed_mix mask torn x hx safe later hn hp i hi j (by omega)
    simp only [crashed, hget]
    have hlen : i < (crashed mask torn x safe later j).length := by rw [crashed_length]; exact hi
    by_cases hpi : (later[j]).1.toNat = i
    · -- the write into this very sector: none ahead of it was
      have hfirst : (crashed mask torn x safe later j)[i]? = safe[i]? := by
        rcases ih with ⟨_, h⟩ | ⟨k, p, hk, hkp, hpk, _⟩
        · exact h
        · exfalso
          have hk2 : k < later.length := by omega
          have e1 : (later.map (·.1.toNat))[k]? = some i := by rw [List.getElem?_map, hkp]; simp [hpk]
          have e2 : (later.map (·.1.toNat))[j]? = some i := by rw [List.getElem?_map, hget]; simp [hpi]
          have := (List.getElem?_inj (by simpa using hk2) hn).1 (e1.trans e2.symm)
          omega
      have hgd : (crashed mask torn x safe later j).getD i .empty = safe.getD i .empty := by
        rw [List.getD_eq_getElem?_getD, hfirst, ← List.getD_eq_getElem?_getD]
      refine .inr ⟨j, later[j], by omega, hget, hpi, ?_⟩
      unfold Disk.crashAt
      rw [hpi]
      split
      · refine ⟨_, List.getElem?_set_self hlen, .inr (.inr ⟨x.toNat, by omega, ?_⟩)⟩
        rw [hgd]
      · split
        · exact ⟨_, List.getElem?_set_self hlen, .inr (.inl rfl)⟩
        · refine ⟨safe[i], by rw [hfirst]; exact List.getElem?_eq_getElem hi, .inl ?_⟩
          simp [hi]
    · have hsame : (Disk.crashAt mask torn x (crashed mask torn x safe later j) j later[j])[i]? = (crashed mask torn x safe later j)[i]? := by
        unfold Disk.crashAt
        split
        · rw [List.getElem?_set_ne hpi]
        · split
          · rw [List.getElem?_set_ne hpi]
          · rfl
      rw [hsame]
      rcases ih with ⟨h1, h2⟩ | ⟨k, p, hk, hkp, hpk, X, hX⟩
      · refine .inl ⟨fun k hk p hkp => ?_, h2⟩
        by_cases hkj : k = j
        · subst hkj
          rw [hget] at hkp
          cases hkp
          exact hpi
        · exact h1 k (by omega) p hkp
      · exact .inr ⟨k, p, by omega, hkp, hpk, X, hX⟩

/-- A sector that is read by a leaf's number is that leaf, where the old one bore no such number. -/
theorem mix_leaf {n j : Int} {i : Nat} {s d old X : ByteArray} (hi : i < 4096) (hn : 1 ≤ n ∧ n ≤ 1152921504606846976) (hx : old.size = 128) (ho1 : numOf (hd8 old) < n) (ho2 : numOf (tl8 old) < n) (hm : Mix old (leaf n i (part s i)) X)
    (hv : readV X.data.toList = some (n, j, d)) : X = leaf n i (part s i) := by
  rcases hm with h | h | ⟨c, hc, h⟩
  · rw [h] at hv
    obtain ⟨_, _, _, h4, _, _⟩ := readV_some hv
    exact absurd h4.symm (old_head hx hn ho1)
  · exact h
  · rw [h] at hv ⊢
    exact torn_leaf (m := n) (j := j) (d := d) hi hn hx ho2 hc hv
end Go.Sep

/- Layer 7: a crash while something is put. -/
namespace Go.Sep
open Go.Den Go.RowKit Go.Prog Go.Plat
set_option linter.unusedSimpArgs false
set_option linter.unusedVariables false

/-- Leaves laid, whatever the disk does: a first part of the writes is there. -/
theorem layF_gen {at' number : Int} {s : ByteArray} (hnum : 1 ≤ number ∧ number ≤ 1152921504606846976) (hat : 0 ≤ at') : ∀ (n i : Nat) {D : Disk}, at' + i + n ≤ D.safe.length → i + n ≤ 4096 →
    ∃ m, m ≤ n ∧ (layF at' number s D i n).1.later = D.later ++ ((List.range' i m).map fun q : Nat => (at' + (q : Int), Disk.pad (leaf number q (part s q)))) ∧ (layF at' number s D i n).1.safe = D.safe ∧ ((layF at' number s D i n).2 = 0 → m = n)
  | 0, i, D, hr, hi => ⟨0, Nat.le_refl _, by simp [layF], rfl, fun _ => rfl⟩
  | n + 1, i, D, hr, hi => by
    have hg : Good number i (part s i) := ⟨hnum.1, hnum.2, by omega, by omega, part_size s i⟩
    have hsz := leaf_size hg
    have hi' : D.is (at' + i) := ⟨by omega, by omega⟩
    have hbad : ¬ (¬ D.is (at' + i) ∨ 128 < (leaf number i (part s i)).size) := by
      rintro (hh | hh)
      · exact hh hi'
      · omega
    have hsafe := (write_len D (at' + i) (leaf number i (part s i))).1
    have hw : D.write (at' + i) (leaf number i (part s i)) = if D.fails then (D.tick, 8) else ({ Go.Plat.Disk.tick D with later := D.later ++ [(at' + i, Disk.pad (leaf number i (part s i)))] }, 0) := by
      unfold Disk.write
      rw [if_neg hbad]
    unfold layF
    cases hf : D.fails with
    | true =>
      rw [hf, if_pos rfl] at hw
      rw [hw, if_pos (by simp)]
      exact ⟨0, Nat.zero_le _, by simp [Disk.tick], rfl, fun h => by simp at h⟩
    | false =>
      rw [hf, if_neg Bool.noConfusion] at hw
      have h0 : (D.write (at' + i) (leaf number i (part s i))).2 = 0 := by rw [hw]
      have hlat : (D.write (at' + i) (leaf number i (part s i))).1.later = D.later ++ [(at' + i, Disk.pad (leaf number i (part s i)))] := by rw [hw]
      rw [if_neg (by rw [h0]; exact fun hh => hh rfl)]
      obtain ⟨m, h1, h2, h3, h4⟩ := layF_gen hnum hat (s := s) n (i + 1) (D := (D.write (at' + i) (leaf number i (part s i))).1) (by rw [hsafe]; omega) (by omega)
      refine ⟨m + 1, by omega, ?_, by rw [h3, hsafe], fun h => by rw [h4 h]⟩
      rw [h2, hlat, List.range'_succ, List.map_cons, List.append_assoc]
      rfl

theorem last_range (at' : Nat) (f : Nat → ByteArray) (i : Int) : ∀ m : Nat, Disk.last ((List.range m).map fun q : Nat => (((at' : Nat) : Int) + (q : Int), f q)) i = if (at' : Int) ≤ i ∧ i < (at' : Int) + m then some (f (i - at').toNat) else none
  | 0 => by rw [if_neg (by omega)]; rfl
  | m + 1 => by
    rw [List.range_succ, List.map_append, List.map_cons, List.map_nil, Dk.last_append, last_range at' f i m]
    dsimp only
    by_cases h : ((at' : Nat) : Int) + (m : Int) = i
    · rw [if_pos h, if_pos (by omega)]
      congr 2
      omega
    · rw [if_neg h]
      by_cases h2 : (at' : Int) ≤ i ∧ i < (at' : Int) + m
      · rw [if_pos h2, if_pos (by omega)]
      · rw [if_neg h2, if_neg (by omega)]

theorem range_sector (at' i m q : Nat) (n : Int) (s : ByteArray) (k : Nat) (p : Int × ByteArray) (h : ((List.range' 0 m).map fun q : Nat => (((at' : Nat) : Int) + (q : Int), Disk.pad (leaf n q (part s q))))[k]? = some p) :
    k < m ∧ p.1.toNat = at' + k ∧ p.2 = Disk.pad (leaf n k (part s k)) := by
  rw [← List.range_eq_range', List.getElem?_map] at h
  have hk : k < m := by
    by_cases hh : k < m
    · exact hh
    · rw [List.getElem?_eq_none (by simpa using hh)] at h; cases h
  rw [List.getElem?_range hk] at h
  cases h
  exact ⟨hk, by dsimp only; omega, rfl⟩

/-- A crash right behind a put, whatever came of it. -/
theorem put_crash {n : Nat} {D : Disk} {which number mask torn cut : Int} {s : ByteArray} (hok : D.Ok) (hlat : D.later = []) (hlen : D.safe.length = n) (h12 : 12 ≤ n) (h4096 : n ≤ 4096) (hnum : 1 ≤ number ∧ number ≤ 1152921504606846976) (hl : cnt s.size ≤ pSize n) :
    (∀ j : Nat, j < n → (((put D n which number s).1.crash mask torn cut).read (j : Int)).1 = (D.read (j : Int)).1 ∨
      ∃ q, q < cnt s.size ∧ j = slotAt n which + q ∧ Mix (D.read (j : Int)).1 (leaf number q (part s q)) (((put D n which number s).1.crash mask torn cut).read (j : Int)).1) ∧
    ((put D n which number s).2 = 0 → ∀ q : Nat, q < cnt s.size → (((put D n which number s).1.crash mask torn cut).read ((slotAt n which + q : Nat) : Int)).1 = leaf number q (part s q)) ∧
    ((put D n which number s).1.crash mask torn cut).Ok ∧ ((put D n which number s).1.crash mask torn cut).safe.length = n := by
  have hin := slotAt_in h12 which
  have hcp := cnt_pos s.size
  have hpad : ∀ q : Nat, q < cnt s.size → Disk.pad (leaf number q (part s q)) = leaf number q (part s q) := fun q hq => pad_128 (leaf_size ⟨hnum.1, hnum.2, by omega, by omega, part_size s q⟩)
  have elay : lay D (slotAt n which) ((slotAt n which + pSize n : Nat) : Int) number s = layF (slotAt n which) number s D 0 (cnt s.size) := by
    unfold lay
    rw [if_neg (by rw [hlen]; omega), if_neg (by omega)]
  obtain ⟨m, hm, hlater, hsafe, hall⟩ := layF_gen (at' := ((slotAt n which : Nat) : Int)) (number := number) (s := s) hnum (by omega) (cnt s.size) 0 (D := D) (by rw [hlen]; omega) (by omega)
  rw [hlat, List.nil_append] at hlater
  have hFok := (layF_ok (at' := ((slotAt n which : Nat) : Int)) (number := number) (s := s) (cnt s.size) 0 hok (by rw [hlat]; simp; omega)).1
  unfold put
  rw [elay]
  generalize hF : layF ((slotAt n which : Nat) : Int) number s D 0 (cnt s.size) = F at *
  obtain ⟨D1, e⟩ := F
  dsimp only at hlater hsafe hall hFok ⊢
  have hold : ∀ j (hj : j < n), (D.read (j : Int)).1 = D.safe[j]'(by omega) := fun j hj => by rw [read_safe hlat (by omega)]
  -- a disk with these writes behind, crashed
  have key : ∀ D2 : Disk, D2.safe = D.safe → D2.later = D1.later → ∀ j : Nat, j < n → ((D2.crash mask torn cut).read (j : Int)).1 = (D.read (j : Int)).1 ∨
      ∃ q, q < cnt s.size ∧ j = slotAt n which + q ∧ Mix (D.read (j : Int)).1 (leaf number q (part s q)) ((D2.crash mask torn cut).read (j : Int)).1 := fun D2 h1 h2 j hj => by
    have hjs : j < D.safe.length := by omega
    have hce : (D2.crash mask torn cut).safe = crashed mask torn (min2 (max2 cut 0) 128) D.safe D1.later D1.later.length := by rw [crash_eq, h1, h2]
    have hjc : j < (D2.crash mask torn cut).safe.length := by rw [hce, crashed_length]; exact hjs
    have hr : ((D2.crash mask torn cut).read (j : Int)).1 = (D2.crash mask torn cut).safe[j] := by rw [read_safe (by rw [crash_eq]) hjc]
    have hx : (D2.crash mask torn cut).safe[j]? = some ((D2.crash mask torn cut).safe[j]) := List.getElem?_eq_getElem hjc
    have hnd : (D1.later.map (·.1.toNat)).Nodup := by
      rw [hlater, List.map_map]
      have : ((fun p : Int × ByteArray => p.1.toNat) ∘ fun q : Nat => (((slotAt n which : Nat) : Int) + (q : Int), Disk.pad (leaf number q (part s q)))) = fun q : Nat => slotAt n which + q := by
        funext q; simp only [Function.comp]; omega
      rw [this]
      exact List.Pairwise.map (fun q => slotAt n which + q) (fun a b (hab : a ≠ b) => by show slotAt n which + a ≠ slotAt n which + b; omega) (List.nodup_range' 1 (by decide))
    have hmix := crashed_mix mask torn (min2 (max2 cut 0) 128) (cut_in cut) D.safe D1.later hnd (fun p hp => by
      have := hFok.later p hp
      rw [hsafe] at this
      exact this.2) j hjs D1.later.length (Nat.le_refl _)
    rw [← hce, hx] at hmix
    rw [hr]
    generalize (D2.crash mask torn cut).safe[j] = X at *
    rcases hmix with ⟨_, h⟩ | ⟨k, p, hk, hkp, hpk, Y, hY, hM⟩
    · left
      rw [hold j hj]
      rw [List.getElem?_eq_getElem hjs] at h
      exact Option.some.inj h
    · right
      cases hY
      rw [hlater] at hkp
      obtain ⟨r1, r2, r3⟩ := range_sector (slotAt n which) 0 m 0 number s k p hkp
      refine ⟨k, by omega, by omega, ?_⟩
      rw [hold j hj, ← hpad k (by omega), ← r3]
      have : D.safe.getD j .empty = D.safe[j] := by simp [hjs]
      rw [← this]
      exact hM
  have hcl : ∀ D2 : Disk, D2.safe.length = n → (D2.crash mask torn cut).safe.length = n := fun D2 h => by rw [crash_eq]; simp only [crashed_length]; exact h
  have hD1n : D1.safe.length = n := by rw [hsafe]; exact hlen
  by_cases he : e = 0
  · subst he
    rw [if_neg (by simp)]
    unfold Disk.sync
    cases hf : D1.fails with
    | true =>
      rw [if_pos rfl]
      exact ⟨key D1.tick hsafe rfl, fun h => by simp at h, crash_ok (D := D1.tick) ⟨hFok.safe, hFok.later, hFok.few, hFok.less⟩ mask torn cut, hcl D1.tick hD1n⟩
    | false =>
      rw [if_neg Bool.noConfusion]
      have hm2 := hall rfl
      subst hm2
      have hok2 := sync_ok hFok
      unfold Disk.sync at hok2
      rw [hf, if_neg Bool.noConfusion] at hok2
      generalize hD3 : ({ Go.Plat.Disk.tick D1 with safe := D1.later.foldl Disk.put D1.safe, later := [] } : Disk) = D3 at *
      have h3s : D3.safe = D1.later.foldl Disk.put D.safe := by rw [← hD3, ← hsafe]
      have h3l : D3.later = [] := by rw [← hD3]
      have h3n : D3.safe.length = n := by rw [h3s, foldl_put_length]; exact hlen
      have hcs : (D3.crash mask torn cut).safe = D3.safe := by rw [crash_eq, h3l]; rfl
      have hrd : ∀ j (hj : j < n), ((D3.crash mask torn cut).read (j : Int)).1 = (Disk.last D1.later (j : Int)).getD (D.read (j : Int)).1 := fun j hj => by
        have hjc : j < (D3.crash mask torn cut).safe.length := by rw [hcl D3 h3n]; exact hj
        have hjs : j < D.safe.length := by omega
        rw [read_safe (by rw [crash_eq]) hjc, hold j hj]
        have h1 := Dk.foldl_put_get (i := (j : Int)) (by omega) D1.later D.safe (by omega) (fun p hp => (hFok.later p hp).2.1)
        rw [Int.toNat_natCast, ← h3s, ← hcs, List.getD_eq_getElem?_getD, List.getElem?_eq_getElem hjc, List.getD_eq_getElem?_getD, List.getElem?_eq_getElem hjs] at h1
        exact h1
      have hlast : ∀ j : Nat, Disk.last D1.later (j : Int) = if slotAt n which ≤ j ∧ j < slotAt n which + cnt s.size then some (Disk.pad (leaf number ((j - slotAt n which : Nat) : Int) (part s (j - slotAt n which)))) else none := fun j => by
        rw [hlater, ← List.range_eq_range', last_range (slotAt n which) (fun q => Disk.pad (leaf number q (part s q))) (j : Int) (cnt s.size)]
        by_cases hj : slotAt n which ≤ j ∧ j < slotAt n which + cnt s.size
        · rw [if_pos hj, if_pos (by omega)]
          have : ((j : Int) - ((slotAt n which : Nat) : Int)).toNat = j - slotAt n which := by omega
          rw [this]
        · rw [if_neg hj, if_neg (by omega)]
      refine ⟨fun j hj => ?_, fun _ q hq => ?_, crash_ok hok2 mask torn cut, hcl D3 h3n⟩
      · rw [hrd j hj, hlast j]
        by_cases hjr : slotAt n which ≤ j ∧ j < slotAt n which + cnt s.size
        · right
          refine ⟨j - slotAt n which, by omega, by omega, .inr (.inl ?_)⟩
          rw [if_pos hjr, Option.getD_some, hpad _ (by omega)]
        · left; rw [if_neg hjr]; rfl
      · rw [hrd _ (by omega), hlast, if_pos (by omega), Option.getD_some, show slotAt n which + q - slotAt n which = q from by omega, hpad q hq]
  · rw [if_pos he]
    exact ⟨key D1 hsafe rfl, fun h => absurd h he, crash_ok hFok mask torn cut, hcl D1 hD1n⟩
end Go.Sep

/- The law SlotCrash: the walk. -/
namespace Go.Sep
open Go.Den Go.RowKit Go.Prog Go.Plat
set_option linter.unusedSimpArgs false
set_option linter.unusedVariables false

theorem put_later {n : Nat} {D : Disk} {which number : Int} {s : ByteArray} (h : Calm n D) (h12 : 12 ≤ n) (h4096 : n ≤ 4096) (hnum : 1 ≤ number ∧ number ≤ 1152921504606846976) (hl : cnt s.size ≤ pSize n) : (put D n which number s).1.later = [] := by
  have hin := slotAt_in h12 which
  have e : lay D (slotAt n which) ((slotAt n which + pSize n : Nat) : Int) number s = layF (slotAt n which) number s D 0 (cnt s.size) := by
    unfold lay
    rw [if_neg (by rw [h.len]; omega), if_neg (by omega)]
  obtain ⟨l1, l2, _, _, _⟩ := layF0 (at' := ((slotAt n which : Nat) : Int)) (number := number) (s := s) hnum (by omega) (cnt s.size) 0 (D := D) h.arm (by rw [h.len]; omega) (by omega)
  unfold put
  rw [e, if_neg (fun hh => hh l1), Dk.sync0 l2]

theorem numOf_zeros : numOf (hd8 (zeros 128)) = 0 ∧ numOf (tl8 (zeros 128)) = 0 := by decide +kernel

theorem hd8_list (x : ByteArray) : (hd8 x).data.toList = x.data.toList.take 8 := by unfold hd8; rw [extract_toList]; rfl
theorem tl8_list {x : ByteArray} (h : x.size = 128) : (tl8 x).data.toList = x.data.toList.drop 120 := by
  unfold tl8
  rw [h, extract_toList, List.take_of_length_le (by rw [List.length_drop, toList_length, h]; omega)]

theorem take_app {α : Type} (a b : List α) (m : Nat) (h : a.length = m) : (a ++ b).take m = a := by subst h; exact List.take_left
theorem drop_app {α : Type} (a b : List α) (m : Nat) (h : a.length = m) : (a ++ b).drop m = b := by subst h; exact List.drop_left

theorem leafL_take8 {n i : Int} {s : ByteArray} : (leafL n i s).take 8 = le .i64 8 n := by
  unfold leafL pre
  simp only [List.append_assoc]
  exact take_app _ _ 8 (le_length _ _ _)

theorem leafL_drop120 {n i : Int} {s : ByteArray} (hs : s.size ≤ 104) : (leafL n i s).drop 120 = le .i64 8 n := by
  unfold leafL
  exact drop_app _ _ 120 (by rw [List.length_append, pre_length hs]; rfl)

/-- Ends of a leaf. -/
theorem leaf_ends {n i : Int} {s : ByteArray} (h : Good n i s) : numOf (hd8 (leaf n i s)) = n ∧ numOf (tl8 (leaf n i s)) = n := by
  have hls := leaf_size h
  have hl : (leaf n i s).data.toList = leafL n i s := by unfold leaf; rw [if_pos h]; rfl
  unfold numOf
  rw [hd8_list, tl8_list hls, hl, leafL_take8, leafL_drop120 h.2.2.2.2, numL_le8 ⟨by have := h.1; omega, h.2.1⟩, if_pos ⟨h.1, h.2.1⟩]
  exact ⟨rfl, rfl⟩

theorem take_mix {α : Type} (A : List α) (z : α) (c n m : Nat) (hA : A.length = n) (hc : c ≤ n) (hm : m ≤ n) : (A.take c ++ (List.replicate n z).drop c).take m = (A.take m).take (min c m) ++ List.replicate (m - min c m) z := by
  rw [List.take_append, List.take_take, List.length_take, hA, List.drop_replicate, List.take_replicate, List.take_take, show min m c = min (min c m) m from by omega, show min (m - min c n) (n - c) = m - min (min c m) m from by omega, show m - min c m = m - min (min c m) m from by omega]

theorem drop_mix {α : Type} (A : List α) (z : α) (c n k : Nat) (hA : A.length = n) (hc : c ≤ n) (hk : k ≤ n) : (A.take c ++ (List.replicate n z).drop c).drop k = (A.drop k).take (c - k) ++ List.replicate (n - k - (c - k)) z := by
  rw [List.drop_append, List.drop_take, List.length_take, hA, List.drop_drop, List.drop_replicate, show n - (c + (k - min c n)) = n - k - (c - k) from by omega]

theorem zeros_list (n : Nat) : (zeros n).data.toList = List.replicate n 0 := by unfold zeros; rfl

theorem le2 : le .i64 8 2 = [2, 0, 0, 0, 0, 0, 0, 0] := by decide +kernel

theorem two_small : ∀ k, k ≤ 8 → numOf (bs (([2, 0, 0, 0, 0, 0, 0, 0] : List UInt8).take k ++ List.replicate (8 - k) 0)) ≤ 2 := fun k hk => by
  match k, hk with
  | 0, _ => decide +kernel
  | 1, _ => decide +kernel
  | 2, _ => decide +kernel
  | 3, _ => decide +kernel
  | 4, _ => decide +kernel
  | 5, _ => decide +kernel
  | 6, _ => decide +kernel
  | 7, _ => decide +kernel
  | 8, _ => decide +kernel

/-- The ends of a first part of a leaf, with zeros behind. -/
theorem mix_ends {n i : Int} {s X : ByteArray} {c : Nat} (hg : Good n i s) (hc : c ≤ 128) (h : X = (leaf n i s).extract 0 c ++ (zeros 128).extract c (zeros 128).size) :
    hd8 X = bs ((le .i64 8 n).take (min c 8) ++ List.replicate (8 - min c 8) 0) ∧ tl8 X = bs ((le .i64 8 n).take (c - 120) ++ List.replicate (8 - (c - 120)) 0) := by
  have hl : (leaf n i s).data.toList = leafL n i s := by unfold leaf; rw [if_pos hg]; rfl
  have hll : (leafL n i s).length = 128 := leafL_length hg.2.2.2.2
  have hX : X.data.toList = (leafL n i s).take c ++ (List.replicate 128 (0 : UInt8)).drop c := by
    have e2 : ((zeros 128).extract c (zeros 128).size).data.toList = (List.replicate 128 (0 : UInt8)).drop c := by
      rw [extract_toList, List.take_of_length_le (by rw [List.length_drop, toList_length]; exact Nat.le_refl _), zeros_list]
    rw [h, ByteArray.data_append, Array.toList_append, e2, extract_toList, List.drop_zero, Nat.sub_zero, hl]
  have hXs : X.size = 128 := by
    rw [← toList_length, hX, List.length_append, List.length_take, List.length_drop, List.length_replicate, hll]; omega
  have t1 := take_mix (leafL n i s) (0 : UInt8) c 128 8 hll hc (by omega)
  have t2 := drop_mix (leafL n i s) (0 : UInt8) c 128 120 hll hc (by omega)
  rw [leafL_take8] at t1
  rw [leafL_drop120 hg.2.2.2.2, show 128 - 120 - (c - 120) = 8 - (c - 120) from by omega] at t2
  rw [← hX] at t1 t2
  rw [← hd8_list] at t1
  rw [← tl8_list hXs] at t2
  exact ⟨bytes_ext t1, bytes_ext t2⟩

/-- A mix of a leaf of number 2 and an empty sector tells no more than 2. -/
theorem mix_two {i : Nat} {s X : ByteArray} (hi : i < 4096) (hm : Mix (zeros 128) (leaf 2 i (part s i)) X) : numOf (hd8 X) ≤ 2 ∧ numOf (tl8 X) ≤ 2 := by
  have hg : Good 2 (i : Int) (part s i) := ⟨by decide, by decide, by omega, by omega, part_size s i⟩
  have hle := leaf_ends hg
  rcases hm with h | h | ⟨c, hc, h⟩
  · rw [h]; have := numOf_zeros; omega
  · rw [h]; omega
  · obtain ⟨e1, e2⟩ := mix_ends hg hc h
    rw [e1, e2, le2]
    exact ⟨two_small _ (by omega), two_small _ (by omega)⟩

theorem grTo_le {D : Disk} {b : Int} (hb : 0 ≤ b) : ∀ j, (∀ i : Nat, i < j → numOf (hd8 (D.read (i : Int)).1) ≤ b ∧ numOf (tl8 (D.read (i : Int)).1) ≤ b) → grTo D j ≤ b
  | 0, _ => hb
  | j + 1, h => by
    have h1 := grTo_le hb j (fun i hi => h i (by omega))
    have h2 := h j (by omega)
    simp only [grTo]
    unfold max2
    split <;> split <;> omega
end Go.Sep

/- The law SlotCrash: the walk. -/
namespace Go.Sep
open Go.Den Go.RowKit Go.Prog Go.Plat
set_option linter.unusedSimpArgs false
set_option linter.unusedVariables false

/-- What was put touches just its own sectors. -/
theorem put_rest {n : Nat} {D : Disk} {which number : Int} {s : ByteArray} (h : Calm n D) (h12 : 12 ≤ n) (h4096 : n ≤ 4096) (hnum : 1 ≤ number ∧ number ≤ 1152921504606846976) (hl : cnt s.size ≤ pSize n) :
    ∀ j : Nat, j < n → (j < slotAt n which ∨ slotAt n which + cnt s.size ≤ j) → ((put D n which number s).1.read (j : Int)).1 = (D.read (j : Int)).1 := by
  have hin := slotAt_in h12 which
  have e : lay D (slotAt n which) ((slotAt n which + pSize n : Nat) : Int) number s = layF (slotAt n which) number s D 0 (cnt s.size) := by
    unfold lay
    rw [if_neg (by rw [h.len]; omega), if_neg (by omega)]
  have hl0 := layF0 (at' := ((slotAt n which : Nat) : Int)) (number := number) (s := s) hnum (by omega) (cnt s.size) 0 (D := D) h.arm (by rw [h.len]; omega) (by omega)
  have hok := layF_ok (at' := ((slotAt n which : Nat) : Int)) (number := number) (s := s) (cnt s.size) 0 h.ok (by have := h.later; omega)
  unfold put
  rw [e]
  obtain ⟨l1, l2, l3, l4, l5⟩ := hl0
  rw [if_neg (fun hh => hh l1)]
  generalize (layF ((slotAt n which : Nat) : Int) number s D 0 (cnt s.size)).1 = D1 at *
  have hlen1 : D1.safe.length = n := by rw [l3]; exact h.len
  intro j hj hj2
  have h1 : D1.sync.1.is (j : Int) := ⟨by omega, by rw [Dk.sync_len.1, hlen1]; omega⟩
  have h2 : D1.is (j : Int) := ⟨by omega, by rw [hlen1]; omega⟩
  have h3 : D.is (j : Int) := ⟨by omega, by rw [h.len]; omega⟩
  unfold Disk.read
  rw [if_pos h1, if_pos h3]
  rw [← l5 (j : Int) (by omega)]
  exact Dk.now_sync0 l2 hok.1 h2

theorem put_ok {n : Nat} {D : Disk} {which number : Int} {s : ByteArray} (h : D.Ok) (hl : D.later.length + cnt s.size < 1099511627776) : (put D n which number s).1.Ok := by
  have := (lay_ok (at' := ((slotAt n which : Nat) : Int)) (number := number) (s := s) (to := ((slotAt n which + pSize n : Nat) : Int)) h hl).1
  unfold put
  split
  · exact this
  · exact sync_ok this

theorem slotAt_0 (n : Nat) : slotAt n 0 = 2 := by unfold slotAt; rw [if_pos (by decide +kernel)]
theorem slotAt_1 (n : Nat) : slotAt n 1 = 2 + pSize n := by unfold slotAt; rw [if_neg (by decide +kernel)]

section
variable {W w : World} {L : List HP}

theorem SlotCrash_spec {n fail mask torn cut : Int} {a b : ByteArray} {K : VK} (h : St W w L) (ha : a.size ≤ reachBytes) (hb : b.size ≤ reachBytes) (hK : ∀ w', St W w' L → K (.bool true) w') : bondstorelaw07_SlotCrash n a b fail mask torn cut K w := by
  have ha' : a.size ≤ 140737488351232 := ha
  have hb' : b.size ≤ 140737488351232 := hb
  unfold bondstorelaw07_SlotCrash
  refine alive7_spec h fun w h => ?_
  simp only [nn_some, add_mk, Nat.zero_add, Nat.add_zero, Nat.reduceAdd, Nat.reduceMul, Option.isNone_some, Option.isNone_none, br_true, br_false, Bool.not_true, Bool.not_false, xI_eq, xB_eq, xS_eq, xP_eq, xL_eq, x0_eq, x2_eq, x3_eq, chk_eq, true_and, and_true, List.set_cons_zero, List.set_cons_succ, List.eraseIdx_cons_zero, List.eraseIdx_cons_succ]
  have go : ∀ c, (c = false → 12 ≤ n ∧ n ≤ 60) → bondstorelaw07_SlotCrash.j1 K n a fail b mask torn cut c w := fun c hc => by
    unfold bondstorelaw07_SlotCrash.j1
    refine br_of (fun _ => hK w h) (fun hf => ?_)
    obtain ⟨h12, h60⟩ := hc hf
    obtain ⟨m, rfl⟩ := Int.eq_ofNat_of_zero_le (show 0 ≤ n by omega)
    have m12 : 12 ≤ m := by omega
    have m4096 : m ≤ 4096 := by omega
    have hps : 2 + 2 * pSize m < m := by unfold pSize; omega
    refine Of_spec (n := m) h m12 m4096 fun w h => ?_
    simp only [nn_some, add_mk, Nat.zero_add, Nat.add_zero, Nat.reduceAdd, Nat.reduceMul, Option.isNone_some, Option.isNone_none, br_true, br_false, Bool.not_true, Bool.not_false, xI_eq, xB_eq, xS_eq, xP_eq, xL_eq, x0_eq, x2_eq, x3_eq, chk_eq, true_and, and_true, List.set_cons_zero, List.set_cons_succ, List.eraseIdx_cons_zero, List.eraseIdx_cons_succ]
    simp only [xA_eq]
    refine ⟨rfl, ?_⟩
    simp only [nn_some, add_mk, Nat.zero_add, Nat.add_zero, Nat.reduceAdd, Nat.reduceMul, Option.isNone_some, Option.isNone_none, br_true, br_false, Bool.not_true, Bool.not_false, xI_eq, xB_eq, xS_eq, xP_eq, xL_eq, x0_eq, x2_eq, x3_eq, chk_eq, true_and, and_true, List.set_cons_zero, List.set_cons_succ, List.eraseIdx_cons_zero, List.eraseIdx_cons_succ]
    refine mk_of h fun r w hs => ?_
    refine ⟨rfl, stN_pt (k := 0) hs rfl (Nat.le_of_ble_eq_true rfl) (by simp [Value.oneCell', planCells]) fun w hs => ?_⟩
    rw [over_all (by simp [planCells])] at hs
    simp only [nn_some, add_mk, Nat.zero_add, Nat.add_zero, Nat.reduceAdd, Nat.reduceMul, Option.isNone_some, Option.isNone_none, br_true, br_false, Bool.not_true, Bool.not_false, xI_eq, xB_eq, xS_eq, xP_eq, xL_eq, x0_eq, x2_eq, x3_eq, chk_eq, true_and, and_true, List.set_cons_zero, List.set_cons_succ, List.eraseIdx_cons_zero, List.eraseIdx_cons_succ] at hs
    refine New_spec hs fun d w hs => ?_
    simp only [nn_some, add_mk, Nat.zero_add, Nat.add_zero, Nat.reduceAdd, Nat.reduceMul, Option.isNone_some, Option.isNone_none, br_true, br_false, Bool.not_true, Bool.not_false, xI_eq, xB_eq, xS_eq, xP_eq, xL_eq, x0_eq, x2_eq, x3_eq, chk_eq, true_and, and_true, List.set_cons_zero, List.set_cons_succ, List.eraseIdx_cons_zero, List.eraseIdx_cons_succ]
    have hcm := calm_new m4096
    refine ldN_pt (k := 1) (xs := planCells m) hs rfl rfl (fun j v hj => by rw [Nat.zero_add]; exact hj) ?_
    refine Fits_spec hs (by omega) fun w hs => ?_
    simp only [nn_some, add_mk, Nat.zero_add, Nat.add_zero, Nat.reduceAdd, Nat.reduceMul, Option.isNone_some, Option.isNone_none, br_true, br_false, Bool.not_true, Bool.not_false, xI_eq, xB_eq, xS_eq, xP_eq, xL_eq, x0_eq, x2_eq, x3_eq, chk_eq, true_and, and_true, List.set_cons_zero, List.set_cons_succ, List.eraseIdx_cons_zero, List.eraseIdx_cons_succ]
    by_cases hfa : cnt a.size ≤ pSize m
    case neg =>
      rw [decide_eq_false hfa]
      simp only [nn_some, add_mk, Nat.zero_add, Nat.add_zero, Nat.reduceAdd, Nat.reduceMul, Option.isNone_some, Option.isNone_none, br_true, br_false, Bool.not_true, Bool.not_false, xI_eq, xB_eq, xS_eq, xP_eq, xL_eq, x0_eq, x2_eq, x3_eq, chk_eq, true_and, and_true, List.set_cons_zero, List.set_cons_succ, List.eraseIdx_cons_zero, List.eraseIdx_cons_succ]
      unfold bondstorelaw07_SlotCrash.j2
      simp only [nn_some, add_mk, Nat.zero_add, Nat.add_zero, Nat.reduceAdd, Nat.reduceMul, Option.isNone_some, Option.isNone_none, br_true, br_false, Bool.not_true, Bool.not_false, xI_eq, xB_eq, xS_eq, xP_eq, xL_eq, x0_eq, x2_eq, x3_eq, chk_eq, true_and, and_true, List.set_cons_zero, List.set_cons_succ, List.eraseIdx_cons_zero, List.eraseIdx_cons_succ]
      exact hK _ hs.drop.drop
    rw [decide_eq_true hfa]
    simp only [nn_some, add_mk, Nat.zero_add, Nat.add_zero, Nat.reduceAdd, Nat.reduceMul, Option.isNone_some, Option.isNone_none, br_true, br_false, Bool.not_true, Bool.not_false, xI_eq, xB_eq, xS_eq, xP_eq, xL_eq, x0_eq, x2_eq, x3_eq, chk_eq, true_and, and_true, List.set_cons_zero, List.set_cons_succ, List.eraseIdx_cons_zero, List.eraseIdx_cons_succ]
    refine ldN_pt (k := 1) (xs := planCells m) hs rfl rfl (fun j v hj => by rw [Nat.zero_add]; exact hj) ?_
    refine Fits_spec hs (by omega) fun w hs => ?_
    simp only [nn_some, add_mk, Nat.zero_add, Nat.add_zero, Nat.reduceAdd, Nat.reduceMul, Option.isNone_some, Option.isNone_none, br_true, br_false, Bool.not_true, Bool.not_false, xI_eq, xB_eq, xS_eq, xP_eq, xL_eq, x0_eq, x2_eq, x3_eq, chk_eq, true_and, and_true, List.set_cons_zero, List.set_cons_succ, List.eraseIdx_cons_zero, List.eraseIdx_cons_succ]
    by_cases hfb : cnt b.size ≤ pSize m
    case neg =>
      rw [decide_eq_false hfb]
      simp only [nn_some, add_mk, Nat.zero_add, Nat.add_zero, Nat.reduceAdd, Nat.reduceMul, Option.isNone_some, Option.isNone_none, br_true, br_false, Bool.not_true, Bool.not_false, xI_eq, xB_eq, xS_eq, xP_eq, xL_eq, x0_eq, x2_eq, x3_eq, chk_eq, true_and, and_true, List.set_cons_zero, List.set_cons_succ, List.eraseIdx_cons_zero, List.eraseIdx_cons_succ]
      unfold bondstorelaw07_SlotCrash.j2
      simp only [nn_some, add_mk, Nat.zero_add, Nat.add_zero, Nat.reduceAdd, Nat.reduceMul, Option.isNone_some, Option.isNone_none, br_true, br_false, Bool.not_true, Bool.not_false, xI_eq, xB_eq, xS_eq, xP_eq, xL_eq, x0_eq, x2_eq, x3_eq, chk_eq, true_and, and_true, List.set_cons_zero, List.set_cons_succ, List.eraseIdx_cons_zero, List.eraseIdx_cons_succ]
      exact hK _ hs.drop.drop
    rw [decide_eq_true hfb]
    simp only [nn_some, add_mk, Nat.zero_add, Nat.add_zero, Nat.reduceAdd, Nat.reduceMul, Option.isNone_some, Option.isNone_none, br_true, br_false, Bool.not_true, Bool.not_false, xI_eq, xB_eq, xS_eq, xP_eq, xL_eq, x0_eq, x2_eq, x3_eq, chk_eq, true_and, and_true, List.set_cons_zero, List.set_cons_succ, List.eraseIdx_cons_zero, List.eraseIdx_cons_succ]
    refine ldN_pt (k := 1) (xs := planCells m) hs rfl rfl (fun j v hj => by rw [Nat.zero_add]; exact hj) ?_
    obtain ⟨p1, p2, p3, _⟩ := put_fits (which := 0) (number := 1) (s := a) hcm m12 m4096 (by decide) hfa
    have p4 := put_rest (which := 0) (number := 1) (s := a) hcm m12 m4096 (by decide) hfa
    have p5 := put_later (which := 0) (number := 1) (s := a) hcm m12 m4096 (by decide) hfa
    rw [slotAt_0] at p3 p4
    refine Put_spec (n := m) (k := 0) hs rfl hcm.ok m12 m4096 (by have := hcm.later; omega) ha fun w hs => ?_
    simp only [nn_some, add_mk, Nat.zero_add, Nat.add_zero, Nat.reduceAdd, Nat.reduceMul, Option.isNone_some, Option.isNone_none, br_true, br_false, Bool.not_true, Bool.not_false, xI_eq, xB_eq, xS_eq, xP_eq, xL_eq, x0_eq, x2_eq, x3_eq, chk_eq, true_and, and_true, List.set_cons_zero, List.set_cons_succ, List.eraseIdx_cons_zero, List.eraseIdx_cons_succ] at hs ⊢
    rw [p1, bne_self_eq_false]
    have hz : ∀ j, j < m → ((Disk.new m).read (j : Int)).1 = zeros 128 := fun j hj => new_read m4096 hj
    generalize (put (Disk.new m) m 0 1 a).1 = D1 at *
    unfold bondstorelaw07_SlotCrash.j2
    simp only [nn_some, add_mk, Nat.zero_add, Nat.add_zero, Nat.reduceAdd, Nat.reduceMul, Option.isNone_some, Option.isNone_none, br_true, br_false, Bool.not_true, Bool.not_false, xI_eq, xB_eq, xS_eq, xP_eq, xL_eq, x0_eq, x2_eq, x3_eq, chk_eq, true_and, and_true, List.set_cons_zero, List.set_cons_succ, List.eraseIdx_cons_zero, List.eraseIdx_cons_succ]
    refine Disk_Arm_spec (k := 0) hs rfl fun w hs => ?_
    simp only [nn_some, add_mk, Nat.zero_add, Nat.add_zero, Nat.reduceAdd, Nat.reduceMul, Option.isNone_some, Option.isNone_none, br_true, br_false, Bool.not_true, Bool.not_false, xI_eq, xB_eq, xS_eq, xP_eq, xL_eq, x0_eq, x2_eq, x3_eq, chk_eq, true_and, and_true, List.set_cons_zero, List.set_cons_succ, List.eraseIdx_cons_zero, List.eraseIdx_cons_succ] at hs ⊢
    have hok1 := armed_ok p2.ok fail
    have hr1 : ∀ j : Nat, ((D1.armed fail).read (j : Int)).1 = (D1.read (j : Int)).1 := fun _ => rfl
    have hlat1 : (D1.armed fail).later = [] := p5
    have hlen1 : (D1.armed fail).safe.length = m := p2.len
    generalize D1.armed fail = DA at *
    refine ldN_pt (k := 1) (xs := planCells m) hs rfl rfl (fun j v hj => by rw [Nat.zero_add]; exact hj) ?_
    refine Put_spec (n := m) (k := 0) hs rfl hok1 m12 m4096 (by rw [hlat1]; decide) hb fun w hs => ?_
    simp only [nn_some, add_mk, Nat.zero_add, Nat.add_zero, Nat.reduceAdd, Nat.reduceMul, Option.isNone_some, Option.isNone_none, br_true, br_false, Bool.not_true, Bool.not_false, xI_eq, xB_eq, xS_eq, xP_eq, xL_eq, x0_eq, x2_eq, x3_eq, chk_eq, true_and, and_true, List.set_cons_zero, List.set_cons_succ, List.eraseIdx_cons_zero, List.eraseIdx_cons_succ] at hs ⊢
    have hpok : (put DA m 1 2 b).1.Ok := put_ok hok1 (by rw [hlat1, List.length_nil]; omega)
    obtain ⟨c1, c2, c3, c4⟩ := put_crash (which := 1) (number := 2) (mask := mask) (torn := torn) (cut := cut) (s := b) hok1 hlat1 hlen1 m12 m4096 (by decide) hfb
    rw [slotAt_1] at c1 c2
    refine Disk_Crash_spec (k := 0) hs rfl hpok fun w hs => ?_
    simp only [nn_some, add_mk, Nat.zero_add, Nat.add_zero, Nat.reduceAdd, Nat.reduceMul, Option.isNone_some, Option.isNone_none, br_true, br_false, Bool.not_true, Bool.not_false, xI_eq, xB_eq, xS_eq, xP_eq, xL_eq, x0_eq, x2_eq, x3_eq, chk_eq, true_and, and_true, List.set_cons_zero, List.set_cons_succ, List.eraseIdx_cons_zero, List.eraseIdx_cons_succ] at hs ⊢
    generalize (put DA m 1 2 b).2 = e at *
    generalize (put DA m 1 2 b).1.crash mask torn cut = D2 at *
    -- what the sectors hold
    have s0 : ∀ q : Nat, q < cnt a.size → (D2.read ((2 + q : Nat) : Int)).1 = leaf 1 q (part a q) := fun q hq => by
      rcases c1 (2 + q) (by omega) with hh | ⟨q2, h1, h2, _⟩
      · rw [hh, hr1]
        have := p3 q hq
        rw [show ((2 + q : Nat) : Int) = ((2 : Nat) : Int) + (q : Int) from by omega]
        exact this
      · omega
    have s1 : ∀ q : Nat, q < cnt b.size → Mix (zeros 128) (leaf 2 q (part b q)) (D2.read ((2 + pSize m + q : Nat) : Int)).1 := fun q hq => by
      have hold : (DA.read ((2 + pSize m + q : Nat) : Int)).1 = zeros 128 := by
        rw [hr1, p4 _ (by omega) (by omega), hz _ (by omega)]
      rcases c1 (2 + pSize m + q) (by omega) with hh | ⟨q2, h1, h2, h3⟩
      · rw [hh, hold]; exact .inl rfl
      · have : q2 = q := by omega
        subst this
        rw [hold] at h3
        exact h3
    have sg : ∀ i : Nat, i < m → numOf (hd8 (D2.read (i : Int)).1) ≤ 2 ∧ numOf (tl8 (D2.read (i : Int)).1) ≤ 2 := fun i hi => by
      have hnz := numOf_zeros
      by_cases h0 : 2 ≤ i ∧ i < 2 + cnt a.size
      · have := s0 (i - 2) (by omega)
        rw [show 2 + (i - 2) = i from by omega] at this
        obtain ⟨e1, e2⟩ := leaf_ends (n := 1) (i := ((i - 2 : Nat) : Int)) (s := part a (i - 2)) ⟨by decide, by decide, by omega, by omega, part_size a (i - 2)⟩
        rw [this, e1, e2]
        exact ⟨by decide, by decide⟩
      · by_cases h1 : 2 + pSize m ≤ i ∧ i < 2 + pSize m + cnt b.size
        · have := s1 (i - (2 + pSize m)) (by omega)
          rw [show 2 + pSize m + (i - (2 + pSize m)) = i from by omega] at this
          exact mix_two (by omega) this
        · rcases c1 i hi with hh | ⟨q2, h2, h3, _⟩
          · rw [hh, hr1, p4 i hi (by omega), hz i hi, hnz.1, hnz.2]
            exact ⟨by decide, by decide⟩
          · omega
    have hgr : grTo D2 m ≤ 2 := grTo_le (by decide) m sg
    have g0 : get D2 m 0 1 a.size = some a.data.toList := get_all c4 m12 m4096 (by decide) hfa fun q hq => by
      rw [slotAt_0, ← s0 q hq, show ((2 : Nat) : Int) + (q : Int) = ((2 + q : Nat) : Int) from by omega]
    have hgood : ∀ i : Nat, i < 4096 → Good 2 i (part b i) := fun i hi => ⟨by decide, by decide, by omega, by omega, part_size b i⟩
    have hlf : ∀ i : Nat, i < 4096 → leaf 2 i (part b i) = bs (leafL 2 i (part b i)) := fun i hi => by unfold leaf; rw [if_pos (hgood i hi)]
    have hcb : cnt b.size ≤ 60 := by omega
    have g1 : get D2 m 1 2 b.size = if (∀ i : Nat, i < cnt b.size → (D2.read ((2 + pSize m + i : Nat) : Int)).1 = leaf 2 i (part b i)) then some b.data.toList else none := by
      by_cases hall : ∀ i : Nat, i < cnt b.size → (D2.read ((2 + pSize m + i : Nat) : Int)).1 = leaf 2 i (part b i)
      · rw [if_pos hall]
        exact get_all c4 m12 m4096 (by decide) hfb fun q hq => by
          rw [slotAt_1, ← hall q hq, show ((2 + pSize m : Nat) : Int) + (q : Int) = ((2 + pSize m + q : Nat) : Int) from by omega]
      · rw [if_neg hall]
        have hex : ∃ q : Nat, q < cnt b.size ∧ (D2.read ((2 + pSize m + q : Nat) : Int)).1 ≠ leaf 2 q (part b q) := by
          by_cases hh : ∃ q : Nat, q < cnt b.size ∧ (D2.read ((2 + pSize m + q : Nat) : Int)).1 ≠ leaf 2 q (part b q)
          · exact hh
          · refine absurd (fun i hi => ?_) hall
            by_cases he : (D2.read ((2 + pSize m + i : Nat) : Int)).1 = leaf 2 i (part b i)
            · exact he
            · exact absurd ⟨i, hi, he⟩ hh
        obtain ⟨q, hq, hne⟩ := hex
        have hbs : b.size ≤ 104 * cnt b.size := by unfold cnt; split <;> omega
        unfold get take
        rw [slotAt_1, if_neg (by rw [c4, Int.toNat_natCast]; omega), Int.toNat_natCast]
        refine takeF_none (cnt b.size) 0 q (Nat.zero_le _) (by omega) fun x j dd hv hh => ?_
        have hx := hh.1
        subst hx
        rw [show ((2 + pSize m : Nat) : Int) + (q : Int) = ((2 + pSize m + q : Nat) : Int) from by omega] at hv
        have hnz := numOf_zeros
        exact hne (mix_leaf (by omega) (by decide) (zeros_size 128) (by omega) (by omega) (s1 q hq) hv)
    refine ldN_pt (k := 1) (xs := planCells m) hs rfl rfl (fun j v hj => by rw [Nat.zero_add]; exact hj) ?_
    refine Get_spec (n := m) (k := 0) hs rfl c3 m12 m4096 fun w hs => ?_
    rw [g0]
    unfold takeRes
    simp only [nn_some, add_mk, Nat.zero_add, Nat.add_zero, Nat.reduceAdd, Nat.reduceMul, Option.isNone_some, Option.isNone_none, br_true, br_false, Bool.not_true, Bool.not_false, xI_eq, xB_eq, xS_eq, xP_eq, xL_eq, x0_eq, x2_eq, x3_eq, chk_eq, true_and, and_true, List.set_cons_zero, List.set_cons_succ, List.eraseIdx_cons_zero, List.eraseIdx_cons_succ]
    refine ldN_pt (k := 1) (xs := planCells m) hs rfl rfl (fun j v hj => by rw [Nat.zero_add]; exact hj) ?_
    refine Get_spec (n := m) (k := 0) hs rfl c3 m12 m4096 fun w hs => ?_
    rw [g1]
    obtain ⟨t, ok, htr, h1, h2, h3⟩ : ∃ t ok, takeRes (if (∀ i : Nat, i < cnt b.size → (D2.read ((2 + pSize m + i : Nat) : Int)).1 = leaf 2 i (part b i)) then some b.data.toList else none) = .tuple ⟨[.string t, .bool ok]⟩ ∧
        ok = decide (∀ i : Nat, i < cnt b.size → (D2.read ((2 + pSize m + i : Nat) : Int)).1 = leaf 2 i (part b i)) ∧ (ok = true → t = b) ∧ (ok = false → t = .empty) := by
      by_cases hall : ∀ i : Nat, i < cnt b.size → (D2.read ((2 + pSize m + i : Nat) : Int)).1 = leaf 2 i (part b i)
      · exact ⟨b, true, by rw [if_pos hall]; rfl, by rw [decide_eq_true hall], fun _ => rfl, fun hh => (by cases hh)⟩
      · exact ⟨.empty, false, by rw [if_neg hall]; rfl, by rw [decide_eq_false hall], fun hh => (by cases hh), fun _ => rfl⟩
    rw [htr]
    simp only [nn_some, add_mk, Nat.zero_add, Nat.add_zero, Nat.reduceAdd, Nat.reduceMul, Option.isNone_some, Option.isNone_none, br_true, br_false, Bool.not_true, Bool.not_false, xI_eq, xB_eq, xS_eq, xP_eq, xL_eq, x0_eq, x2_eq, x3_eq, chk_eq, true_and, and_true, List.set_cons_zero, List.set_cons_succ, List.eraseIdx_cons_zero, List.eraseIdx_cons_succ]
    refine ⟨fun us w' => ∃ j : Nat, us = [.bool false, .pointer (some ⟨r, 0, none⟩), .pointer (some ⟨d, 0, none⟩), .int .i64 e, .string (bs a.data.toList), .bool true, .string t, .bool ok, .bool (decide (∀ i : Nat, i < j → (D2.read ((2 + pSize m + i : Nat) : Int)).1 = leaf 2 i (part b i))), .int .i64 j] ∧ j ≤ cnt b.size ∧ St W w' (disk d D2 :: pt r (planCells m) :: L),
      fun us _ => match us with | [_, _, _, _, _, _, _, _, _, .int _ j] => cnt b.size - j.toNat | _ => 0, ⟨0, by simp, Nat.zero_le _, hs⟩, ?_⟩
    rintro b6 a1 q2 n8 s5 b7 s6 b8 b9 n9 w2 ⟨j, he, hj, hs2⟩
    cases he
    refine rCount_spec (by omega) ?_
    simp only [nn_some, add_mk, Nat.zero_add, Nat.add_zero, Nat.reduceAdd, Nat.reduceMul, Option.isNone_some, Option.isNone_none, br_true, br_false, Bool.not_true, Bool.not_false, xI_eq, xB_eq, xS_eq, xP_eq, xL_eq, x0_eq, x2_eq, x3_eq, chk_eq, true_and, and_true, List.set_cons_zero, List.set_cons_succ, List.eraseIdx_cons_zero, List.eraseIdx_cons_succ]
    refine br_dec (fun hlt => ?_) (fun hge => ?_)
    · have e5 : IntKind.i64.wrap ((j : Int) + 1) = ((j + 1 : Nat) : Int) := by rw [wrap_id (by omega)]; omega
      have e6 : IntKind.i64.wrap (((2 + pSize m : Nat) : Int) + (j : Int)) = ((2 + pSize m + j : Nat) : Int) := by rw [wrap_id (by omega)]; omega
      refine ld_pt (k := 1) hs2 rfl (v := .int .i64 (2 + pSize m : Nat)) rfl ?_
      simp only [nn_some, add_mk, Nat.zero_add, Nat.add_zero, Nat.reduceAdd, Nat.reduceMul, Option.isNone_some, Option.isNone_none, br_true, br_false, Bool.not_true, Bool.not_false, xI_eq, xB_eq, xS_eq, xP_eq, xL_eq, x0_eq, x2_eq, x3_eq, chk_eq, true_and, and_true, List.set_cons_zero, List.set_cons_succ, List.eraseIdx_cons_zero, List.eraseIdx_cons_succ]
      rw [e6]
      refine Disk_Read_spec (k := 0) hs2 rfl c3 ?_
      simp only [nn_some, add_mk, Nat.zero_add, Nat.add_zero, Nat.reduceAdd, Nat.reduceMul, Option.isNone_some, Option.isNone_none, br_true, br_false, Bool.not_true, Bool.not_false, xI_eq, xB_eq, xS_eq, xP_eq, xL_eq, x0_eq, x2_eq, x3_eq, chk_eq, true_and, and_true, List.set_cons_zero, List.set_cons_succ, List.eraseIdx_cons_zero, List.eraseIdx_cons_succ]
      rw [e5]
      refine br_dec (fun hall => ?_) (fun hnot => ?_)
      · refine rPart_spec (by omega) hb ?_
        simp only [nn_some, add_mk, Nat.zero_add, Nat.add_zero, Nat.reduceAdd, Nat.reduceMul, Option.isNone_some, Option.isNone_none, br_true, br_false, Bool.not_true, Bool.not_false, xI_eq, xB_eq, xS_eq, xP_eq, xL_eq, x0_eq, x2_eq, x3_eq, chk_eq, true_and, and_true, List.set_cons_zero, List.set_cons_succ, List.eraseIdx_cons_zero, List.eraseIdx_cons_succ]
        refine rLeaf_spec hs2 (part_size b j) fun w h => ?_
        simp only [nn_some, add_mk, Nat.zero_add, Nat.add_zero, Nat.reduceAdd, Nat.reduceMul, Option.isNone_some, Option.isNone_none, br_true, br_false, Bool.not_true, Bool.not_false, xI_eq, xB_eq, xS_eq, xP_eq, xL_eq, x0_eq, x2_eq, x3_eq, chk_eq, true_and, and_true, List.set_cons_zero, List.set_cons_succ, List.eraseIdx_cons_zero, List.eraseIdx_cons_succ]
        refine ⟨⟨j + 1, ?_, by omega, h⟩, by omega⟩
        have e : strEq (D2.read ((2 + pSize m + j : Nat) : Int)).1 (bs (leafL 2 j (part b j))) = decide (∀ i : Nat, i < j + 1 → (D2.read ((2 + pSize m + i : Nat) : Int)).1 = leaf 2 i (part b i)) := by
          rw [strEq_iff, decide_eq_decide, ← hlf j (by omega)]
          constructor
          · intro hh i hi
            by_cases hij : i = j
            · subst hij; exact hh
            · exact hall i (by omega)
          · intro hh; exact hh j (by omega)
        rw [e]
      · refine ⟨⟨j + 1, ?_, by omega, hs2⟩, by omega⟩
        have e : decide (∀ i : Nat, i < j + 1 → (D2.read ((2 + pSize m + i : Nat) : Int)).1 = leaf 2 i (part b i)) = false := decide_eq_false (fun hh => hnot fun i hi => hh i (by omega))
        rw [e]
    · have hjc : j = cnt b.size := by omega
      subst hjc
      rw [← h1]
      have fin : ∀ w, St W w (disk d D2 :: pt r (planCells m) :: L) → stamp_Greatest (some ⟨d, 0, none⟩) (xI .i64 fun n13 => K (.bool (decide (n13 ≤ 2)))) w := fun w hs => by
        refine Greatest_spec (k := 0) hs rfl c3 fun w hs => ?_
        simp only [nn_some, add_mk, Nat.zero_add, Nat.add_zero, Nat.reduceAdd, Nat.reduceMul, Option.isNone_some, Option.isNone_none, br_true, br_false, Bool.not_true, Bool.not_false, xI_eq, xB_eq, xS_eq, xP_eq, xL_eq, x0_eq, x2_eq, x3_eq, chk_eq, true_and, and_true, List.set_cons_zero, List.set_cons_succ, List.eraseIdx_cons_zero, List.eraseIdx_cons_succ]
        rw [c4, decide_eq_true hgr]
        exact hK _ hs.drop.drop
      have eab : strEq (bs a.data.toList) a = true := by rw [strEq_iff]; exact decide_eq_true rfl
      rw [eab]
      simp only [nn_some, add_mk, Nat.zero_add, Nat.add_zero, Nat.reduceAdd, Nat.reduceMul, Option.isNone_some, Option.isNone_none, br_true, br_false, Bool.not_true, Bool.not_false, xI_eq, xB_eq, xS_eq, xP_eq, xL_eq, x0_eq, x2_eq, x3_eq, chk_eq, true_and, and_true, List.set_cons_zero, List.set_cons_succ, List.eraseIdx_cons_zero, List.eraseIdx_cons_succ]
      rw [beq_self_eq_true, br_true]
      cases ok with
      | true =>
        have ebb : strEq t b = true := by rw [strEq_iff, h2 rfl]; exact decide_eq_true rfl
        rw [ebb]
        simp only [nn_some, add_mk, Nat.zero_add, Nat.add_zero, Nat.reduceAdd, Nat.reduceMul, Option.isNone_some, Option.isNone_none, br_true, br_false, Bool.not_true, Bool.not_false, xI_eq, xB_eq, xS_eq, xP_eq, xL_eq, x0_eq, x2_eq, x3_eq, chk_eq, true_and, and_true, List.set_cons_zero, List.set_cons_succ, List.eraseIdx_cons_zero, List.eraseIdx_cons_succ]
        refine br_ne (fun _ => fin _ hs2) (fun _ => fin _ hs2)
      | false =>
        simp only [nn_some, add_mk, Nat.zero_add, Nat.add_zero, Nat.reduceAdd, Nat.reduceMul, Option.isNone_some, Option.isNone_none, br_true, br_false, Bool.not_true, Bool.not_false, xI_eq, xB_eq, xS_eq, xP_eq, xL_eq, x0_eq, x2_eq, x3_eq, chk_eq, true_and, and_true, List.set_cons_zero, List.set_cons_succ, List.eraseIdx_cons_zero, List.eraseIdx_cons_succ]
        refine br_ne (fun _ => fin _ hs2) (fun h0 => ?_)
        exfalso
        have hno := (of_decide_eq_false h1.symm)
        exact hno (c2 h0)
  refine br_dec (fun h1 => go _ (fun hf => by cases hf)) (fun h1 => ?_)
  refine br_dec (fun h2 => go _ (fun hf => by cases hf)) (fun h2 => ?_)
  refine br_dec (fun h3 => go _ (fun hf => by cases hf)) (fun h3 => ?_)
  exact go _ (fun hf => ⟨by omega, by omega⟩)

theorem SlotCrash_ok {a0 a3 a4 a5 a6 : Int} {a1 a2 : ByteArray} (_ : (Lit.int .i64 a0).wf = true) (w1 : a1.size ≤ reachBytes) (w2 : a2.size ≤ reachBytes) (_ : (Lit.int .i64 a3).wf = true) (_ : (Lit.int .u64 a4).wf = true) (_ : (Lit.int .i64 a5).wf = true) (_ : (Lit.int .i64 a6).wf = true) :
    bondstorelaw07_SlotCrash.u [.int .i64 a0, .string a1, .string a2, .int .i64 a3, .int .u64 a4, .int .i64 a5, .int .i64 a6] (fun v w' => v = .bool true ∧ Below W.heap.size W w') W := by
  unfold bondstorelaw07_SlotCrash.u
  exact SlotCrash_spec (K := fun v w' => v = .bool true ∧ Below W.heap.size W w') (St.start W) w1 w2 (fun w' h => ⟨rfl, h.below⟩)
end
end Go.Sep

/- What is laid, and synced: on any place. -/
namespace Go.Sep
open Go.Den Go.RowKit Go.Prog Go.Plat
set_option linter.unusedSimpArgs false
set_option linter.unusedVariables false

/-- Laid, and synced where all was written. -/
def lsync (D : Disk) (at' to number : Int) (s : ByteArray) : Disk × Int := if (lay D at' to number s).2 ≠ 0 then lay D at' to number s else (lay D at' to number s).1.sync

theorem ls_long {n a t : Nat} {D : Disk} {number : Int} {s : ByteArray} (hlen : D.safe.length = n) (hnum : 1 ≤ number ∧ number ≤ 1152921504606846976) (hat : a ≤ t) (htn : t ≤ n) (hl : t < a + cnt s.size) : lsync D a t number s = (D, 3) := by
  have e : lay D (a : Nat) ((t : Nat) : Int) number s = (D, 3) := by
    unfold lay
    rw [if_neg (by rw [hlen]; omega), if_pos (by omega)]
  unfold lsync
  rw [e, if_pos (by simp)]

theorem ls_ok {D : Disk} {at' to number : Int} {s : ByteArray} (h : D.Ok) (hl : D.later.length + cnt s.size < 1099511627776) : (lsync D at' to number s).1.Ok := by
  have := (lay_ok (at' := at') (number := number) (s := s) (to := to) h hl).1
  unfold lsync
  split
  · exact this
  · exact sync_ok this

theorem ls_later {n a t : Nat} {D : Disk} {number : Int} {s : ByteArray} (h : Calm n D) (h4096 : n ≤ 4096) (hnum : 1 ≤ number ∧ number ≤ 1152921504606846976) (hl : a + cnt s.size ≤ t) (htn : t ≤ n) : (lsync D a t number s).1.later = [] := by
  have hcp := cnt_pos s.size
  have e : lay D (a : Nat) ((t : Nat) : Int) number s = layF (a : Nat) number s D 0 (cnt s.size) := by
    unfold lay
    rw [if_neg (by rw [h.len]; omega), if_neg (by omega)]
  obtain ⟨l1, l2, _, _, _⟩ := layF0 (at' := ((a : Nat) : Int)) (number := number) (s := s) hnum (by omega) (cnt s.size) 0 (D := D) h.arm (by rw [h.len]; omega) (by omega)
  unfold lsync
  rw [e, if_neg (fun hh => hh l1), Dk.sync0 l2]

theorem ls_fits {n a t : Nat} {D : Disk} {number : Int} {s : ByteArray} (h : Calm n D) (h4096 : n ≤ 4096) (hnum : 1 ≤ number ∧ number ≤ 1152921504606846976) (hl : a + cnt s.size ≤ t) (htn : t ≤ n) :
    (lsync D a t number s).2 = 0 ∧ Calm n (lsync D a t number s).1 ∧ (∀ q : Nat, q < cnt s.size → ((lsync D a t number s).1.read (((a : Nat) : Int) + q)).1 = leaf number q (part s q)) ∧
    ∀ j : Nat, j < n → (j < a ∨ a + cnt s.size ≤ j) → ((lsync D a t number s).1.read (j : Int)).1 = (D.read (j : Int)).1 := by
  have e : lay D (a) ((t : Nat) : Int) number s = layF (a) number s D 0 (cnt s.size) := by
    unfold lay
    rw [if_neg (by rw [h.len]; omega), if_neg (by omega)]
  have hl0 := layF0 (at' := ((a : Nat) : Int)) (number := number) (s := s) hnum (by omega) (cnt s.size) 0 (D := D) h.arm (by rw [h.len]; omega) (by omega)
  have hli := layF_in (at' := ((a : Nat) : Int)) (number := number) (s := s) hnum (by omega) (cnt s.size) 0 (D := D) h.arm (by rw [h.len]; omega) (by omega)
  have hok := layF_ok (at' := ((a : Nat) : Int)) (number := number) (s := s) (cnt s.size) 0 h.ok (by have := h.later; omega)
  unfold lsync
  rw [e]
  obtain ⟨l1, l2, l3, l4, l5⟩ := hl0
  rw [if_neg (fun hh => hh l1)]
  generalize (layF ((a : Nat) : Int) number s D 0 (cnt s.size)).1 = D1 at *
  have hlen1 : D1.safe.length = n := by rw [l3]; exact h.len
  have hs0 := Dk.sync0 l2
  have hcalm : Calm n D1.sync.1 := ⟨sync_ok hok.1, Dk.sync0_arm l2, by rw [hs0]; exact Nat.zero_le _, by rw [Dk.sync_len.1]; exact hlen1⟩
  have hrd : ∀ j : Nat, j < n → (D1.sync.1.read (j : Int)).1 = D1.now (j : Int) := fun j hj => by
    have h1 : D1.sync.1.is (j : Int) := ⟨by omega, by rw [hcalm.len]; omega⟩
    have h2 : D1.is (j : Int) := ⟨by omega, by rw [hlen1]; omega⟩
    unfold Disk.read
    rw [if_pos h1]
    exact Dk.now_sync0 l2 hok.1 h2
  refine ⟨by rw [hs0], hcalm, fun q hq => ?_, fun j hj hj2 => ?_⟩
  · have := hrd (a + q) (by omega)
    rw [show (((a : Nat) : Int) + (q : Int)) = ((a + q : Nat) : Int) from by omega, this, show ((a + q : Nat) : Int) = ((a : Nat) : Int) + (q : Int) from by omega]
    exact hli q (Nat.zero_le _) (by omega)
  · rw [hrd j hj, l5 (j : Int) (by omega)]
    have h2 : D.is (j : Int) := ⟨by omega, by rw [h.len]; omega⟩
    unfold Disk.read
    rw [if_pos h2]

/-- A crash right behind a put, whatever came of it. -/
theorem ls_crash {n a t : Nat} {D : Disk} {number mask torn cut : Int} {s : ByteArray} (hok : D.Ok) (hlat : D.later = []) (hlen : D.safe.length = n) (h4096 : n ≤ 4096) (hnum : 1 ≤ number ∧ number ≤ 1152921504606846976) (hl : a + cnt s.size ≤ t) (htn : t ≤ n) :
    (∀ j : Nat, j < n → (((lsync D a t number s).1.crash mask torn cut).read (j : Int)).1 = (D.read (j : Int)).1 ∨
      ∃ q, q < cnt s.size ∧ j = a + q ∧ Mix (D.read (j : Int)).1 (leaf number q (part s q)) (((lsync D a t number s).1.crash mask torn cut).read (j : Int)).1) ∧
    ((lsync D a t number s).2 = 0 → ∀ q : Nat, q < cnt s.size → (((lsync D a t number s).1.crash mask torn cut).read ((a + q : Nat) : Int)).1 = leaf number q (part s q)) ∧
    ((lsync D a t number s).1.crash mask torn cut).Ok ∧ ((lsync D a t number s).1.crash mask torn cut).safe.length = n := by
  have hcp := cnt_pos s.size
  have hpad : ∀ q : Nat, q < cnt s.size → Disk.pad (leaf number q (part s q)) = leaf number q (part s q) := fun q hq => pad_128 (leaf_size ⟨hnum.1, hnum.2, by omega, by omega, part_size s q⟩)
  have elay : lay D (a : Nat) ((t : Nat) : Int) number s = layF (a) number s D 0 (cnt s.size) := by
    unfold lay
    rw [if_neg (by rw [hlen]; omega), if_neg (by omega)]
  obtain ⟨m, hm, hlater, hsafe, hall⟩ := layF_gen (at' := ((a : Nat) : Int)) (number := number) (s := s) hnum (by omega) (cnt s.size) 0 (D := D) (by rw [hlen]; omega) (by omega)
  rw [hlat, List.nil_append] at hlater
  have hFok := (layF_ok (at' := ((a : Nat) : Int)) (number := number) (s := s) (cnt s.size) 0 hok (by rw [hlat]; simp; omega)).1
  unfold lsync
  rw [elay]
  generalize hF : layF ((a : Nat) : Int) number s D 0 (cnt s.size) = F at *
  obtain ⟨D1, e⟩ := F
  dsimp only at hlater hsafe hall hFok ⊢
  have hold : ∀ j (hj : j < n), (D.read (j : Int)).1 = D.safe[j]'(by omega) := fun j hj => by rw [read_safe hlat (by omega)]
  -- a disk with these writes behind, crashed
  have key : ∀ D2 : Disk, D2.safe = D.safe → D2.later = D1.later → ∀ j : Nat, j < n → ((D2.crash mask torn cut).read (j : Int)).1 = (D.read (j : Int)).1 ∨
      ∃ q, q < cnt s.size ∧ j = a + q ∧ Mix (D.read (j : Int)).1 (leaf number q (part s q)) ((D2.crash mask torn cut).read (j : Int)).1 := fun D2 h1 h2 j hj => by
    have hjs : j < D.safe.length := by omega
    have hce : (D2.crash mask torn cut).safe = crashed mask torn (min2 (max2 cut 0) 128) D.safe D1.later D1.later.length := by rw [crash_eq, h1, h2]
    have hjc : j < (D2.crash mask torn cut).safe.length := by rw [hce, crashed_length]; exact hjs
    have hr : ((D2.crash mask torn cut).read (j : Int)).1 = (D2.crash mask torn cut).safe[j] := by rw [read_safe (by rw [crash_eq]) hjc]
    have hx : (D2.crash mask torn cut).safe[j]? = some ((D2.crash mask torn cut).safe[j]) := List.getElem?_eq_getElem hjc
    have hnd : (D1.later.map (·.1.toNat)).Nodup := by
      rw [hlater, List.map_map]
      have : ((fun p : Int × ByteArray => p.1.toNat) ∘ fun q : Nat => (((a : Nat) : Int) + (q : Int), Disk.pad (leaf number q (part s q)))) = fun q : Nat => a + q := by
        funext q; simp only [Function.comp]; omega
      rw [this]
      exact List.Pairwise.map (fun q => a + q) (fun x y (hab : x ≠ y) => by show a + x ≠ a + y; omega) (List.nodup_range' 1 (by decide))
    have hmix := crashed_mix mask torn (min2 (max2 cut 0) 128) (cut_in cut) D.safe D1.later hnd (fun p hp => by
      have := hFok.later p hp
      rw [hsafe] at this
      exact this.2) j hjs D1.later.length (Nat.le_refl _)
    rw [← hce, hx] at hmix
    rw [hr]
    generalize (D2.crash mask torn cut).safe[j] = X at *
    rcases hmix with ⟨_, h⟩ | ⟨k, p, hk, hkp, hpk, Y, hY, hM⟩
    · left
      rw [hold j hj]
      rw [List.getElem?_eq_getElem hjs] at h
      exact Option.some.inj h
    · right
      cases hY
      rw [hlater] at hkp
      obtain ⟨r1, r2, r3⟩ := range_sector (a) 0 m 0 number s k p hkp
      refine ⟨k, by omega, by omega, ?_⟩
      rw [hold j hj, ← hpad k (by omega), ← r3]
      have : D.safe.getD j .empty = D.safe[j] := by simp [hjs]
      rw [← this]
      exact hM
  have hcl : ∀ D2 : Disk, D2.safe.length = n → (D2.crash mask torn cut).safe.length = n := fun D2 h => by rw [crash_eq]; simp only [crashed_length]; exact h
  have hD1n : D1.safe.length = n := by rw [hsafe]; exact hlen
  by_cases he : e = 0
  · subst he
    rw [if_neg (by simp)]
    unfold Disk.sync
    cases hf : D1.fails with
    | true =>
      rw [if_pos rfl]
      exact ⟨key D1.tick hsafe rfl, fun h => by simp at h, crash_ok (D := D1.tick) ⟨hFok.safe, hFok.later, hFok.few, hFok.less⟩ mask torn cut, hcl D1.tick hD1n⟩
    | false =>
      rw [if_neg Bool.noConfusion]
      have hm2 := hall rfl
      subst hm2
      have hok2 := sync_ok hFok
      unfold Disk.sync at hok2
      rw [hf, if_neg Bool.noConfusion] at hok2
      generalize hD3 : ({ Go.Plat.Disk.tick D1 with safe := D1.later.foldl Disk.put D1.safe, later := [] } : Disk) = D3 at *
      have h3s : D3.safe = D1.later.foldl Disk.put D.safe := by rw [← hD3, ← hsafe]
      have h3l : D3.later = [] := by rw [← hD3]
      have h3n : D3.safe.length = n := by rw [h3s, foldl_put_length]; exact hlen
      have hcs : (D3.crash mask torn cut).safe = D3.safe := by rw [crash_eq, h3l]; rfl
      have hrd : ∀ j (hj : j < n), ((D3.crash mask torn cut).read (j : Int)).1 = (Disk.last D1.later (j : Int)).getD (D.read (j : Int)).1 := fun j hj => by
        have hjc : j < (D3.crash mask torn cut).safe.length := by rw [hcl D3 h3n]; exact hj
        have hjs : j < D.safe.length := by omega
        rw [read_safe (by rw [crash_eq]) hjc, hold j hj]
        have h1 := Dk.foldl_put_get (i := (j : Int)) (by omega) D1.later D.safe (by omega) (fun p hp => (hFok.later p hp).2.1)
        rw [Int.toNat_natCast, ← h3s, ← hcs, List.getD_eq_getElem?_getD, List.getElem?_eq_getElem hjc, List.getD_eq_getElem?_getD, List.getElem?_eq_getElem hjs] at h1
        exact h1
      have hlast : ∀ j : Nat, Disk.last D1.later (j : Int) = if a ≤ j ∧ j < a + cnt s.size then some (Disk.pad (leaf number ((j - a : Nat) : Int) (part s (j - a)))) else none := fun j => by
        rw [hlater, ← List.range_eq_range', last_range (a) (fun q => Disk.pad (leaf number q (part s q))) (j : Int) (cnt s.size)]
        by_cases hj : a ≤ j ∧ j < a + cnt s.size
        · rw [if_pos hj, if_pos (by omega)]
          have : ((j : Int) - ((a : Nat) : Int)).toNat = j - a := by omega
          rw [this]
        · rw [if_neg hj, if_neg (by omega)]
      refine ⟨fun j hj => ?_, fun _ q hq => ?_, crash_ok hok2 mask torn cut, hcl D3 h3n⟩
      · rw [hrd j hj, hlast j]
        by_cases hjr : a ≤ j ∧ j < a + cnt s.size
        · right
          refine ⟨j - a, by omega, by omega, .inr (.inl ?_)⟩
          rw [if_pos hjr, Option.getD_some, hpad _ (by omega)]
        · left; rw [if_neg hjr]; rfl
      · rw [hrd _ (by omega), hlast, if_pos (by omega), Option.getD_some, show a + q - a = q from by omega, hpad q hq]
  · rw [if_pos he]
    exact ⟨key D1 hsafe rfl, fun h => absurd h he, crash_ok hFok mask torn cut, hcl D1 hD1n⟩
end Go.Sep

/- Mixes of leaves by small numbers. -/
namespace Go.Sep
open Go.Den Go.RowKit Go.Prog Go.Plat
set_option linter.unusedSimpArgs false
set_option linter.unusedVariables false

theorem le_small' : ∀ n : Fin 256, le .i64 8 (n.val : Int) = UInt8.ofNat n.val :: List.replicate 7 0 := by decide +kernel
theorem le_small {n : Nat} (h : n < 256) : le .i64 8 (n : Int) = UInt8.ofNat n :: List.replicate 7 0 := le_small' ⟨n, h⟩

/-- The numbers at a sector's ends. -/
structure Ends (g : Nat) (X : ByteArray) : Prop where
  size : X.size = 128
  hd : ∃ a, a ≤ g ∧ X.data.toList.take 8 = le .i64 8 ((a : Nat) : Int)
  tl : ∃ b, b ≤ g ∧ X.data.toList.drop 120 = le .i64 8 ((b : Nat) : Int)

theorem Ends.mono {g g' : Nat} {X : ByteArray} (h : Ends g X) (hg : g ≤ g') : Ends g' X := by
  obtain ⟨h1, ⟨a, h2, h3⟩, b, h4, h5⟩ := h
  exact ⟨h1, ⟨a, by omega, h3⟩, b, by omega, h5⟩

theorem ends_zeros : Ends 0 (zeros 128) := ⟨zeros_size 128, ⟨0, Nat.le_refl _, by rw [zeros_list]; decide +kernel⟩, 0, Nat.le_refl _, by rw [zeros_list]; decide +kernel⟩

theorem leaf_list {n i : Int} {s : ByteArray} (h : Good n i s) : (leaf n i s).data.toList = leafL n i s := by unfold leaf; rw [if_pos h]; rfl

theorem ends_leaf {n : Nat} {i : Int} {s : ByteArray} (h : Good n i s) : Ends n (leaf n i s) :=
  ⟨leaf_size h, ⟨n, Nat.le_refl _, by rw [leaf_list h, leafL_take8]⟩, n, Nat.le_refl _, by rw [leaf_list h, leafL_drop120 h.2.2.2.2]⟩

theorem numOf_small {n : Nat} (h : n < 256) : numOf (bs (le .i64 8 ((n : Nat) : Int))) = n := by
  unfold numOf
  show (if 1 ≤ numL (le .i64 8 (n : Int)) ∧ numL (le .i64 8 (n : Int)) ≤ 1152921504606846976 then _ else _) = _
  rw [numL_le8 ⟨by omega, by omega⟩]
  by_cases h0 : n = 0
  · subst h0; rfl
  · rw [if_pos ⟨by omega, by omega⟩]
    show numL (le .i64 8 (n : Int)) = _
    rw [numL_le8 ⟨by omega, by omega⟩]

theorem Ends.num {g : Nat} {X : ByteArray} (h : Ends g X) (hg : g < 256) : numOf (hd8 X) ≤ g ∧ numOf (tl8 X) ≤ g := by
  obtain ⟨h1, ⟨a, h2, h3⟩, b, h4, h5⟩ := h
  have e1 : hd8 X = bs (le .i64 8 ((a : Nat) : Int)) := bytes_ext (by rw [hd8_list, h3]; rfl)
  have e2 : tl8 X = bs (le .i64 8 ((b : Nat) : Int)) := bytes_ext (by rw [tl8_list h1, h5]; rfl)
  rw [e1, e2, numOf_small (by omega), numOf_small (by omega)]
  omega

theorem grTo_ends {D : Disk} {g : Nat} (hg : g < 256) (j : Nat) (h : ∀ i : Nat, i < j → Ends g (D.read (i : Int)).1) : grTo D j ≤ g := grTo_le (by omega) j (fun i hi => (h i hi).num hg)

theorem small_take {n a : Nat} (hn : n < 256) (ha : a < 256) (k : Nat) (hk : k ≤ 8) : (le .i64 8 ((n : Nat) : Int)).take k ++ (le .i64 8 ((a : Nat) : Int)).drop k = if k = 0 then le .i64 8 ((a : Nat) : Int) else le .i64 8 ((n : Nat) : Int) := by
  rw [le_small hn, le_small ha]
  cases k with
  | zero => rfl
  | succ k =>
    rw [if_neg (by omega), List.take_succ_cons, List.drop_succ_cons, List.cons_append]
    congr 1
    exact List.take_append_drop k _

/-- What a mix of a leaf by a small number is. -/
theorem mix_cases {n : Nat} {g : Nat} {i : Int} {s old X : ByteArray} (hn : g < n) (hn2 : n < 256) (hgd : Good n i s) (ho : Ends g old) (hm : Mix old (leaf n i s) X) :
    Ends n X ∧ (X = old ∨ X = leaf n i s ∨ readV X.data.toList = none) := by
  rcases hm with h | h | ⟨c, hc, h⟩
  · rw [h]; exact ⟨ho.mono (by omega), .inl rfl⟩
  · rw [h]; exact ⟨ends_leaf hgd, .inr (.inl rfl)⟩
  · obtain ⟨o1, ⟨a, ha, oh⟩, b, hb, ot⟩ := ho
    have hl := leaf_list hgd
    have hll : (leafL n i s).length = 128 := leafL_length hgd.2.2.2.2
    have hol : old.data.toList.length = 128 := by rw [toList_length]; exact o1
    have hX : X.data.toList = (leafL n i s).take c ++ old.data.toList.drop c := by
      have e2 : (old.extract c old.size).data.toList = old.data.toList.drop c := by
        rw [extract_toList, List.take_of_length_le (by rw [List.length_drop, toList_length]; exact Nat.le_refl _)]
      rw [h, ByteArray.data_append, Array.toList_append, e2, extract_toList, List.drop_zero, Nat.sub_zero, hl]
    have hXs : X.size = 128 := by
      rw [← toList_length, hX, List.length_append, List.length_take, List.length_drop, hll, hol]; omega
    have h8 : X.data.toList.take 8 = (le .i64 8 ((n : Nat) : Int)).take (min c 8) ++ (le .i64 8 ((a : Nat) : Int)).drop (min c 8) := by
      rw [hX, ← oh, ← leafL_take8 (n := n) (i := i) (s := s), List.take_append, List.take_take, List.take_take, List.length_take, hll, List.drop_take, show min (min c 8) 8 = min 8 c from by omega, show min c 128 = c from by omega]
      congr 1
      by_cases h8 : c ≤ 8
      · rw [show min c 8 = c from by omega]
      · rw [show 8 - c = 0 from by omega, show 8 - min c 8 = 0 from by omega, List.take_zero, List.take_zero]
    have h120 : X.data.toList.drop 120 = (le .i64 8 ((n : Nat) : Int)).take (c - 120) ++ (le .i64 8 ((b : Nat) : Int)).drop (c - 120) := by
      rw [hX, ← ot, ← leafL_drop120 (n := n) (i := i) hgd.2.2.2.2, List.drop_append, List.drop_take, List.length_take, hll, List.drop_drop, List.drop_drop, show min c 128 = c from by omega]
      congr 2
      omega
    rw [small_take hn2 (by omega) _ (by omega)] at h8 h120
    by_cases hc0 : c = 0
    · have : X = old := bytes_ext (by rw [hX, hc0, List.take_zero, List.nil_append, List.drop_zero])
      rw [this]
      exact ⟨⟨o1, ⟨a, by omega, oh⟩, b, by omega, ot⟩, .inl rfl⟩
    · rw [if_neg (by omega)] at h8
      by_cases hc1 : c ≤ 120
      · rw [if_pos (by omega)] at h120
        refine ⟨⟨hXs, ⟨n, Nat.le_refl _, h8⟩, b, by omega, h120⟩, .inr (.inr ?_)⟩
        cases hv : readV X.data.toList with
        | none => rfl
        | some y =>
          exfalso
          obtain ⟨m, j, d⟩ := y
          obtain ⟨v1, v2, v3, v4, _, _⟩ := readV_some hv
          rw [sTail_eq v2 v1, h120] at v3
          unfold sN at v3
          rw [h8, numL_le8 ⟨by omega, by omega⟩, numL_le8 ⟨by omega, by omega⟩] at v3
          omega
      · rw [if_neg (by omega)] at h120
        refine ⟨⟨hXs, ⟨n, Nat.le_refl _, h8⟩, n, Nat.le_refl _, h120⟩, .inr (.inl ?_)⟩
        apply bytes_ext
        rw [hl]
        refine (List.take_append_drop 120 _).symm.trans (Eq.trans ?_ (List.take_append_drop 120 _))
        rw [h120, leafL_drop120 hgd.2.2.2.2, hX, List.take_append_of_le_length (by rw [List.length_take, hll]; omega), List.take_take, show min 120 c = 120 from by omega]
end Go.Sep
