/- Layer 7: a crash while something is put. -/
import Derived.Test.YtidhimamegfdaaaDoorMix
namespace Go.Sep
open Go.Den Go.RowKit Go.Prog Go.Plat
set_option linter.unusedSimpArgs false
set_option linter.unusedVariables false

/-- Leaves laid, whatever the disk does: a first part of the writes is there. -/
theorem layF_gen {at' number : Int} {s : ByteArray} (hnum : 1 ≤ number ∧ number ≤ 1152921504606846976) (hat : 0 ≤ at') : ∀ (n i : Nat) {D : Disk}, at' + i + n ≤ D.safe.length → i + n ≤ 4096 →
    ∃ m, m ≤ n ∧ (layF at' number s D i n).1.later = D.later ++ ((List.range' i m).map fun q : Nat => (at' + (q : Int), Disk.pad (leaf number q (part s q)))) ∧ (layF at' number s D i n).1.safe = D.safe ∧ ((layF at' number s D i n).2 = 0 → m = n)
  | 0, i, D, hr, hi => ⟨0, Nat.le_refl _, by simp [layF], rfl, fun _ => rfl⟩
  | n + 1, i, D, hr, hi => by
    have hg : Good number i (part s i) := ⟨hnum.1, hnum.2, by omega, by omega, part_size s i⟩
    have hsz := leaf_size hg
    have hi' : D.is (at' + i) := ⟨by omega, by omega⟩
    have hbad : ¬ (¬ D.is (at' + i) ∨ 128 < (leaf number i (part s i)).size) := by
      rintro (hh | hh)
      · exact hh hi'
      · omega
    have hsafe := (write_len D (at' + i) (leaf number i (part s i))).1
    have hw : D.write (at' + i) (leaf number i (part s i)) = if D.fails then (D.tick, 8) else ({ Go.Plat.Disk.tick D with later := D.later ++ [(at' + i, Disk.pad (leaf number i (part s i)))] }, 0) := by
      unfold Disk.write
      rw [if_neg hbad]
    unfold layF
    cases hf : D.fails with
    | true =>
      rw [hf, if_pos rfl] at hw
      rw [hw, if_pos (by simp)]
      exact ⟨0, Nat.zero_le _, by simp [Disk.tick], rfl, fun h => by simp at h⟩
    | false =>
      rw [hf, if_neg Bool.noConfusion] at hw
      have h0 : (D.write (at' + i) (leaf number i (part s i))).2 = 0 := by rw [hw]
      have hlat : (D.write (at' + i) (leaf number i (part s i))).1.later = D.later ++ [(at' + i, Disk.pad (leaf number i (part s i)))] := by rw [hw]
      rw [if_neg (by rw [h0]; exact fun hh => hh rfl)]
      obtain ⟨m, h1, h2, h3, h4⟩ := layF_gen hnum hat (s := s) n (i + 1) (D := (D.write (at' + i) (leaf number i (part s i))).1) (by rw [hsafe]; omega) (by omega)
      refine ⟨m + 1, by omega, ?_, by rw [h3, hsafe], fun h => by rw [h4 h]⟩
      rw [h2, hlat, List.range'_succ, List.map_cons, List.append_assoc]
      rfl

theorem last_range (at' : Nat) (f : Nat → ByteArray) (i : Int) : ∀ m : Nat, Disk.last ((List.range m).map fun q : Nat => (((at' : Nat) : Int) + (q : Int), f q)) i = if (at' : Int) ≤ i ∧ i < (at' : Int) + m then some (f (i - at').toNat) else none
  | 0 => by rw [if_neg (by omega)]; rfl
  | m + 1 => by
    rw [List.range_succ, List.map_append, List.map_cons, List.map_nil, Dk.last_append, last_range at' f i m]
    dsimp only
    by_cases h : ((at' : Nat) : Int) + (m : Int) = i
    · rw [if_pos h, if_pos (by omega)]
      congr 2
      omega
    · rw [if_neg h]
      by_cases h2 : (at' : Int) ≤ i ∧ i < (at' : Int) + m
      · rw [if_pos h2, if_pos (by omega)]
      · rw [if_neg h2, if_neg (by omega)]

theorem range_sector (at' i m q : Nat) (n : Int) (s : ByteArray) (k : Nat) (p : Int × ByteArray) (h : ((List.range' 0 m).map fun q : Nat => (((at' : Nat) : Int) + (q : Int), Disk.pad (leaf n q (part s q))))[k]? = some p) :
    k < m ∧ p.1.toNat = at' + k ∧ p.2 = Disk.pad (leaf n k (part s k)) := by
  rw [← List.range_eq_range', List.getElem?_map] at h
  have hk : k < m := by
    by_cases hh : k < m
    · exact hh
    · rw [List.getElem?_eq_none (by simpa using hh)] at h; cases h
  rw [List.getElem?_range hk] at h
  cases h
  exact ⟨hk, by dsimp only; omega, rfl⟩

/-- A crash right behind a put, whatever came of it. -/
theorem put_crash {n : Nat} {D : Disk} {which number mask torn cut : Int} {s : ByteArray} (hok : D.Ok) (hlat : D.later = []) (hlen : D.safe.length = n) (h12 : 12 ≤ n) (h4096 : n ≤ 4096) (hnum : 1 ≤ number ∧ number ≤ 1152921504606846976) (hl : cnt s.size ≤ pSize n) :
    (∀ j : Nat, j < n → (((put D n which number s).1.crash mask torn cut).read (j : Int)).1 = (D.read (j : Int)).1 ∨
      ∃ q, q < cnt s.size ∧ j = slotAt n which + q ∧ Mix (D.read (j : Int)).1 (leaf number q (part s q)) (((put D n which number s).1.crash mask torn cut).read (j : Int)).1) ∧
    ((put D n which number s).2 = 0 → ∀ q : Nat, q < cnt s.size → (((put D n which number s).1.crash mask torn cut).read ((slotAt n which + q : Nat) : Int)).1 = leaf number q (part s q)) ∧
    ((put D n which number s).1.crash mask torn cut).Ok ∧ ((put D n which number s).1.crash mask torn cut).safe.length = n := by
  have hin := slotAt_in h12 which
  have hcp := cnt_pos s.size
  have hpad : ∀ q : Nat, q < cnt s.size → Disk.pad (leaf number q (part s q)) = leaf number q (part s q) := fun q hq => pad_128 (leaf_size ⟨hnum.1, hnum.2, by omega, by omega, part_size s q⟩)
  have elay : lay D (slotAt n which) ((slotAt n which + pSize n : Nat) : Int) number s = layF (slotAt n which) number s D 0 (cnt s.size) := by
    unfold lay
    rw [if_neg (by rw [hlen]; omega), if_neg (by omega)]
  obtain ⟨m, hm, hlater, hsafe, hall⟩ := layF_gen (at' := ((slotAt n which : Nat) : Int)) (number := number) (s := s) hnum (by omega) (cnt s.size) 0 (D := D) (by rw [hlen]; omega) (by omega)
  rw [hlat, List.nil_append] at hlater
  have hFok := (layF_ok (at' := ((slotAt n which : Nat) : Int)) (number := number) (s := s) (cnt s.size) 0 hok (by rw [hlat]; simp; omega)).1
  unfold put
  rw [elay]
  generalize hF : layF ((slotAt n which : Nat) : Int) number s D 0 (cnt s.size) = F at *
  obtain ⟨D1, e⟩ := F
  dsimp only at hlater hsafe hall hFok ⊢
  have hold : ∀ j (hj : j < n), (D.read (j : Int)).1 = D.safe[j]'(by omega) := fun j hj => by rw [read_safe hlat (by omega)]
  -- a disk with these writes behind, crashed
  have key : ∀ D2 : Disk, D2.safe = D.safe → D2.later = D1.later → ∀ j : Nat, j < n → ((D2.crash mask torn cut).read (j : Int)).1 = (D.read (j : Int)).1 ∨
      ∃ q, q < cnt s.size ∧ j = slotAt n which + q ∧ Mix (D.read (j : Int)).1 (leaf number q (part s q)) ((D2.crash mask torn cut).read (j : Int)).1 := fun D2 h1 h2 j hj => by
    have hjs : j < D.safe.length := by omega
    have hce : (D2.crash mask torn cut).safe = crashed mask torn (min2 (max2 cut 0) 128) D.safe D1.later D1.later.length := by rw [crash_eq, h1, h2]
    have hjc : j < (D2.crash mask torn cut).safe.length := by rw [hce, crashed_length]; exact hjs
    have hr : ((D2.crash mask torn cut).read (j : Int)).1 = (D2.crash mask torn cut).safe[j] := by rw [read_safe (by rw [crash_eq]) hjc]
    have hx : (D2.crash mask torn cut).safe[j]? = some ((D2.crash mask torn cut).safe[j]) := List.getElem?_eq_getElem hjc
    have hnd : (D1.later.map (·.1.toNat)).Nodup := by
      rw [hlater, List.map_map]
      have : ((fun p : Int × ByteArray => p.1.toNat) ∘ fun q : Nat => (((slotAt n which : Nat) : Int) + (q : Int), Disk.pad (leaf number q (part s q)))) = fun q : Nat => slotAt n which + q := by
        funext q; simp only [Function.comp]; omega
      rw [this]
      exact List.Pairwise.map (fun q => slotAt n which + q) (fun a b (hab : a ≠ b) => by show slotAt n which + a ≠ slotAt n which + b; omega) (List.nodup_range' 1 (by decide))
    have hmix := crashed_mix mask torn (min2 (max2 cut 0) 128) (cut_in cut) D.safe D1.later hnd (fun p hp => by
      have := hFok.later p hp
      rw [hsafe] at this
      exact this.2) j hjs D1.later.length (Nat.le_refl _)
    rw [← hce, hx] at hmix
    rw [hr]
    generalize (D2.crash mask torn cut).safe[j] = X at *
    rcases hmix with ⟨_, h⟩ | ⟨k, p, hk, hkp, hpk, Y, hY, hM⟩
    · left
      rw [hold j hj]
      rw [List.getElem?_eq_getElem hjs] at h
      exact Option.some.inj h
    · right
      cases hY
      rw [hlater] at hkp
      obtain ⟨r1, r2, r3⟩ := range_sector (slotAt n which) 0 m 0 number s k p hkp
      refine ⟨k, by omega, by omega, ?_⟩
      rw [hold j hj, ← hpad k (by omega), ← r3]
      have : D.safe.getD j .empty = D.safe[j] := by simp [hjs]
      rw [← this]
      exact hM
  have hcl : ∀ D2 : Disk, D2.safe.length = n → (D2.crash mask torn cut).safe.length = n := fun D2 h => by rw [crash_eq]; simp only [crashed_length]; exact h
  have hD1n : D1.safe.length = n := by rw [hsafe]; exact hlen
  by_cases he : e = 0
  · subst he
    rw [if_neg (by simp)]
    unfold Disk.sync
    cases hf : D1.fails with
    | true =>
      rw [if_pos rfl]
      exact ⟨key D1.tick hsafe rfl, fun h => by simp at h, crash_ok (D := D1.tick) ⟨hFok.safe, hFok.later, hFok.few, hFok.less⟩ mask torn cut, hcl D1.tick hD1n⟩
    | false =>
      rw [if_neg Bool.noConfusion]
      have hm2 := hall rfl
      subst hm2
      have hok2 := sync_ok hFok
      unfold Disk.sync at hok2
      rw [hf, if_neg Bool.noConfusion] at hok2
      generalize hD3 : ({ Go.Plat.Disk.tick D1 with safe := D1.later.foldl Disk.put D1.safe, later := [] } : Disk) = D3 at *
      have h3s : D3.safe = D1.later.foldl Disk.put D.safe := by rw [← hD3, ← hsafe]
      have h3l : D3.later = [] := by rw [← hD3]
      have h3n : D3.safe.length = n := by rw [h3s, foldl_put_length]; exact hlen
      have hcs : (D3.crash mask torn cut).safe = D3.safe := by rw [crash_eq, h3l]; rfl
      have hrd : ∀ j (hj : j < n), ((D3.crash mask torn cut).read (j : Int)).1 = (Disk.last D1.later (j : Int)).getD (D.read (j : Int)).1 := fun j hj => by
        have hjc : j < (D3.crash mask torn cut).safe.length := by rw [hcl D3 h3n]; exact hj
        have hjs : j < D.safe.length := by omega
        rw [read_safe (by rw [crash_eq]) hjc, hold j hj]
        have h1 := Dk.foldl_put_get (i := (j : Int)) (by omega) D1.later D.safe (by omega) (fun p hp => (hFok.later p hp).2.1)
        rw [Int.toNat_natCast, ← h3s, ← hcs, List.getD_eq_getElem?_getD, List.getElem?_eq_getElem hjc, List.getD_eq_getElem?_getD, List.getElem?_eq_getElem hjs] at h1
        exact h1
      have hlast : ∀ j : Nat, Disk.last D1.later (j : Int) = if slotAt n which ≤ j ∧ j < slotAt n which + cnt s.size then some (Disk.pad (leaf number ((j - slotAt n which : Nat) : Int) (part s (j - slotAt n which)))) else none := fun j => by
        rw [hlater, ← List.range_eq_range', last_range (slotAt n which) (fun q => Disk.pad (leaf number q (part s q))) (j : Int) (cnt s.size)]
        by_cases hj : slotAt n which ≤ j ∧ j < slotAt n which + cnt s.size
        · rw [if_pos hj, if_pos (by omega)]
          have : ((j : Int) - ((slotAt n which : Nat) : Int)).toNat = j - slotAt n which := by omega
          rw [this]
        · rw [if_neg hj, if_neg (by omega)]
      refine ⟨fun j hj => ?_, fun _ q hq => ?_, crash_ok hok2 mask torn cut, hcl D3 h3n⟩
      · rw [hrd j hj, hlast j]
        by_cases hjr : slotAt n which ≤ j ∧ j < slotAt n which + cnt s.size
        · right
          refine ⟨j - slotAt n which, by omega, by omega, .inr (.inl ?_)⟩
          rw [if_pos hjr, Option.getD_some, hpad _ (by omega)]
        · left; rw [if_neg hjr]; rfl
      · rw [hrd _ (by omega), hlast, if_pos (by omega), Option.getD_some, show slotAt n which + q - slotAt n which = q from by omega, hpad q hq]
  · rw [if_pos he]
    exact ⟨key D1 hsafe rfl, fun h => absurd h he, crash_ok hFok mask torn cut, hcl D1 hD1n⟩
end Go.Sep
