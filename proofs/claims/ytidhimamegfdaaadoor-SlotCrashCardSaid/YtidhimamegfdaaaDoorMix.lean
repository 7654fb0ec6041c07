/- What a crash leaves of writes into unlike sectors. -/
import Derived.Test.YtidhimamegfdaaaDoorStCrash
import Derived.Test.YtidhimamegfdaaaDoorSlPuts
namespace Go.Sep
open Go.Den Go.RowKit Go.Prog Go.Plat
set_option linter.unusedSimpArgs false
set_option linter.unusedVariables false

/-- A sector behind a crash while 'new' was written over 'old'. -/
def Mix (old new X : ByteArray) : Prop := X = old ∨ X = new ∨ ∃ c, c ≤ 128 ∧ X = new.extract 0 c ++ old.extract c old.size

theorem crashed_mix (mask torn x : Int) (hx : 0 ≤ x ∧ x ≤ 128) (safe : List ByteArray) (later : List (Int × ByteArray)) (hn : (later.map (·.1.toNat)).Nodup) (hp : ∀ p ∈ later, 0 ≤ p.1 ∧ p.1 < safe.length) (i : Nat) (hi : i < safe.length) :
    ∀ j, j ≤ later.length → ((∀ k, k < j → ∀ p, later[k]? = some p → p.1.toNat ≠ i) ∧ (crashed mask torn x safe later j)[i]? = safe[i]?) ∨
      ∃ k p, k < j ∧ later[k]? = some p ∧ p.1.toNat = i ∧ ∃ X, (crashed mask torn x safe later j)[i]? = some X ∧ Mix (safe.getD i .empty) p.2 X
  | 0, _ => .inl ⟨fun k hk => by omega, rfl⟩
  | j + 1, hj => by
    have hlt : j < later.length := by omega
    have hget : later[j]? = some later[j] := List.getElem?_eq_getElem hlt
    have ih := crashed_mix mask torn x hx safe later hn hp i hi j (by omega)
    simp only [crashed, hget]
    have hlen : i < (crashed mask torn x safe later j).length := by rw [crashed_length]; exact hi
    by_cases hpi : (later[j]).1.toNat = i
    · -- the write into this very sector: none ahead of it was
      have hfirst : (crashed mask torn x safe later j)[i]? = safe[i]? := by
        rcases ih with ⟨_, h⟩ | ⟨k, p, hk, hkp, hpk, _⟩
        · exact h
        · exfalso
          have hk2 : k < later.length := by omega
          have e1 : (later.map (·.1.toNat))[k]? = some i := by rw [List.getElem?_map, hkp]; simp [hpk]
          have e2 : (later.map (·.1.toNat))[j]? = some i := by rw [List.getElem?_map, hget]; simp [hpi]
          have := (List.getElem?_inj (by simpa using hk2) hn).1 (e1.trans e2.symm)
          omega
      have hgd : (crashed mask torn x safe later j).getD i .empty = safe.getD i .empty := by
        rw [List.getD_eq_getElem?_getD, hfirst, ← List.getD_eq_getElem?_getD]
      refine .inr ⟨j, later[j], by omega, hget, hpi, ?_⟩
      unfold Disk.crashAt
      rw [hpi]
      split
      · refine ⟨_, List.getElem?_set_self hlen, .inr (.inr ⟨x.toNat, by omega, ?_⟩)⟩
        rw [hgd]
      · split
        · exact ⟨_, List.getElem?_set_self hlen, .inr (.inl rfl)⟩
        · refine ⟨safe[i], by rw [hfirst]; exact List.getElem?_eq_getElem hi, .inl ?_⟩
          simp [hi]
    · have hsame : (Disk.crashAt mask torn x (crashed mask torn x safe later j) j later[j])[i]? = (crashed mask torn x safe later j)[i]? := by
        unfold Disk.crashAt
        split
        · rw [List.getElem?_set_ne hpi]
        · split
          · rw [List.getElem?_set_ne hpi]
          · rfl
      rw [hsame]
      rcases ih with ⟨h1, h2⟩ | ⟨k, p, hk, hkp, hpk, X, hX⟩
      · refine .inl ⟨fun k hk p hkp => ?_, h2⟩
        by_cases hkj : k = j
        · subst hkj
          rw [hget] at hkp
          cases hkp
          exact hpi
        · exact h1 k (by omega) p hkp
      · exact .inr ⟨k, p, by omega, hkp, hpk, X, hX⟩

/-- A sector that is read by a leaf's number is that leaf, where the old one bore no such number. -/
theorem mix_leaf {n j : Int} {i : Nat} {s d old X : ByteArray} (hi : i < 4096) (hn : 1 ≤ n ∧ n ≤ 1152921504606846976) (hx : old.size = 128) (ho1 : numOf (hd8 old) < n) (ho2 : numOf (tl8 old) < n) (hm : Mix old (leaf n i (part s i)) X)
    (hv : readV X.data.toList = some (n, j, d)) : X = leaf n i (part s i) := by
  rcases hm with h | h | ⟨c, hc, h⟩
  · rw [h] at hv
    obtain ⟨_, _, _, h4, _, _⟩ := readV_some hv
    exact absurd h4.symm (old_head hx hn ho1)
  · exact h
  · rw [h] at hv ⊢
    exact torn_leaf (m := n) (j := j) (d := d) hi hn hx ho2 hc hv
end Go.Sep
