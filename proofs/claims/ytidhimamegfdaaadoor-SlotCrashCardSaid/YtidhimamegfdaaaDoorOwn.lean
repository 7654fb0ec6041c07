/- Slices that are owned: an array of one's own, of which a beginning is in use. -/
import Derived.Test.YtidhimamegfdaaaDoorRules
namespace Go.Sep
set_option linter.unusedSimpArgs false
set_option linter.unusedVariables false
open Go.Den Go.RowKit

/-- The slice (b, n, c), of elements of 'e' cells, holds 'xs'; its array is ours. -/
def own (b : Option Addr) (n c e : Nat) (xs : List Value) : HP := fun h =>
  xs.length = n * e ∧ ((b = none ∧ n = 0 ∧ c = 0) ∨ ∃ r sp, b = some ⟨r, 0, none⟩ ∧ n ≤ c ∧ sp.length = (c - n) * e ∧ pt r (xs ++ sp) h)

section
variable {W w : World} {L : List HP} {k : Nat} {b : Option Addr} {n c e : Nat} {xs : List Value}

theorem St.push {A : HP} (h : St W w L) (ha : A fun _ => none) : St W w (A :: L) := by
  obtain ⟨hb, g, hs, hv⟩ := h
  exact ⟨hb, g, ⟨fun _ => none, g, fun b => .inl rfl, fun b => by simp, ha, hs⟩, hv⟩

theorem own_nil (e : Nat) : own none 0 0 e [] fun _ => none := ⟨by simp, .inl ⟨rfl, rfl, rfl⟩⟩

theorem St.own_cases (h : St W w L) (hk : L[k]? = some (own b n c e xs)) : xs.length = n * e ∧
    ((b = none ∧ n = 0 ∧ c = 0) ∨ ∃ r sp, b = some ⟨r, 0, none⟩ ∧ n ≤ c ∧ sp.length = (c - n) * e ∧ St W w (L.set k (pt r (xs ++ sp)))) := by
  obtain ⟨hb, g, ⟨h1, h2, hd, hu, ⟨hl, ha⟩, hs⟩, hv⟩ := h.focus hk
  refine ⟨hl, ha.imp id ?_⟩
  rintro ⟨r, sp, hb', hnc, hsp, hp⟩
  exact ⟨r, sp, hb', hnc, hsp, St.unfocus (A := own b n c e xs) ⟨hb, g, ⟨h1, h2, hd, hu, hp, hs⟩, hv⟩ hk⟩

theorem set_get {α : Type} {L : List α} {k : Nat} {A B : α} (hk : L[k]? = some A) : (L.set k B)[k]? = some B := by
  have := (List.getElem?_eq_some_iff.1 hk).1; simp [this]

theorem St.own_of {r : Nat} {sp : List Value} (hk : k < L.length) (hl : xs.length = n * e) (hnc : n ≤ c) (hsp : sp.length = (c - n) * e) (h : St W w (L.set k (pt r (xs ++ sp)))) :
    St W w (L.set k (own (some ⟨r, 0, none⟩) n c e xs)) := by
  have hg : (L.set k (pt r (xs ++ sp)))[k]? = some (pt r (xs ++ sp)) := by simp [hk]
  have h2 := (h.focus hg).mono (B := own (some ⟨r, 0, none⟩) n c e xs) fun g hp => ⟨hl, .inr ⟨r, sp, rfl, hnc, hsp, hp⟩⟩
  have := h2.unfocus hg
  rwa [List.set_set] at this

theorem St.own_cells {r : Nat} (h : St W w L) (hk : L[k]? = some (own (some ⟨r, 0, none⟩) n c e xs)) (o : Nat) (ho : o < xs.length) :
    w.cell? ⟨r, o, none⟩ = xs[o]? ∧ w.frozen? ⟨r, o, none⟩ = false := by
  obtain ⟨hl, h0 | ⟨r', sp, hb, hnc, hsp, hs⟩⟩ := h.own_cases hk
  · cases h0.1
  · cases hb
    obtain ⟨h1, h2, _⟩ := hs.cell (o := o) (set_get hk)
    exact ⟨by rw [h1, List.getElem?_append_left ho], h2 (by simp; omega)⟩

theorem ixs_own {i : Int} {K : Addr → WK} (h : St W w L) (hk : L[k]? = some (own b n c e xs)) (hi : 0 ≤ i ∧ i < n)
    (hK : ∀ r, b = some ⟨r, 0, none⟩ → K ⟨r, i.toNat * e, none⟩ w) : ixs b n i e K w := by
  obtain ⟨hl, h0 | ⟨r, sp, hb, hnc, hsp, hs⟩⟩ := h.own_cases hk
  · omega
  · refine ⟨_, hb, hi, ?_⟩
    rw [add_mk, Nat.zero_add]
    exact hK r hb

theorem ld_own {r o : Nat} {v : Value} {K : VK} (h : St W w L) (hk : L[k]? = some (own (some ⟨r, 0, none⟩) n c e xs)) (hv : xs[o]? = some v) (hK : K v w) : ld ⟨r, o, none⟩ K w :=
  ⟨v, by rw [(h.own_cells hk o (List.getElem?_eq_some_iff.1 hv).1).1, hv], hK⟩

theorem Holds_own {r o : Nat} {ys : List Value} (h : St W w L) (hk : L[k]? = some (own (some ⟨r, 0, none⟩) n c e xs)) (hx : ∀ j v, ys[j]? = some v → xs[o + j]? = some v) : Holds w ⟨r, o, none⟩ ys := fun j v hj => by
  have := hx j v hj
  rw [add_mk, (h.own_cells hk _ (List.getElem?_eq_some_iff.1 this).1).1, this]

theorem ldN_own {r o m : Nat} {ys : List Value} {K : List Value → WK} (h : St W w L) (hk : L[k]? = some (own (some ⟨r, 0, none⟩) n c e xs)) (hl : ys.length = m) (hx : ∀ j v, ys[j]? = some v → xs[o + j]? = some v) (hK : K ys w) : ldN ⟨r, o, none⟩ m K w :=
  ⟨ys, hl, Holds_own h hk hx, hK⟩

theorem stN_own {r o : Nat} {ys : List Value} {K : WK} (h : St W w L) (hk : L[k]? = some (own (some ⟨r, 0, none⟩) n c e xs)) (ho : o + ys.length ≤ xs.length) (h1 : ∀ v ∈ ys, v.oneCell' = true)
    (hK : ∀ w', St W w' (L.set k (own (some ⟨r, 0, none⟩) n c e (over xs o ys))) → K w') : stN ⟨r, o, none⟩ ys K w := by
  obtain ⟨hl, h0 | ⟨r', sp, hb, hnc, hsp, hs⟩⟩ := h.own_cases hk
  · cases h0.1
  · cases hb
    refine stN_pt hs (set_get hk) (by simp; omega) h1 fun w' hw' => hK w' ?_
    rw [List.set_set] at hw'
    have e1 : over (xs ++ sp) o ys = over xs o ys ++ sp := by
      unfold over
      rw [List.take_append_of_le_length (by omega), List.drop_append_of_le_length (by omega)]
      simp
    rw [e1] at hw'
    exact St.own_of ((List.getElem?_eq_some_iff.1 hk).1) (by rw [over_length ho]; exact hl) hnc hsp hw'

theorem st_own {r o : Nat} {v : Value} {K : WK} (h : St W w L) (hk : L[k]? = some (own (some ⟨r, 0, none⟩) n c e xs)) (ho : o < xs.length) (h1 : v.oneCell' = true)
    (hK : ∀ w', St W w' (L.set k (own (some ⟨r, 0, none⟩) n c e (xs.set o v))) → K w') : st ⟨r, o, none⟩ v K w := by
  obtain ⟨hl, h0 | ⟨r', sp, hb, hnc, hsp, hs⟩⟩ := h.own_cases hk
  · cases h0.1
  · cases hb
    refine st_pt hs (set_get hk) (by simp; omega) h1 fun w' hw' => hK w' ?_
    rw [List.set_set, List.set_append_left _ _ ho] at hw'
    exact St.own_of ((List.getElem?_eq_some_iff.1 hk).1) (by simpa using hl) hnc hsp hw'

theorem Src_pt {r o m : Nat} {cs ys : List Value} {k' : Nat} (h : St W w L) (hk : L[k']? = some (pt r cs)) (hl : ys.length = m * e) (hx : ∀ j v, ys[j]? = some v → cs[o + j]? = some v) : Src w m e (some ⟨r, o, none⟩) ys :=
  ⟨hl, fun a ha => by cases ha; exact Holds_pt h hk hx⟩

theorem Src_own {m c' : Nat} {ys : List Value} {b' : Option Addr} {k' : Nat} (h : St W w L) (hk : L[k']? = some (own b' m c' e ys)) : Src w m e b' ys ∧ (b' = none → m = 0) := by
  obtain ⟨hl, h0 | ⟨r', sp, hb, hnc, hsp, hs⟩⟩ := h.own_cases hk
  · obtain ⟨rfl, rfl, rfl⟩ := h0; exact ⟨⟨hl, fun a ha => by cases ha⟩, fun _ => rfl⟩
  · subst hb
    refine ⟨⟨hl, fun a ha => ?_⟩, fun hn => by cases hn⟩
    cases ha
    exact Holds_pt hs (set_get hk) fun j v hj => by
      rw [Nat.zero_add, List.getElem?_append_left (List.getElem?_eq_some_iff.1 hj).1]; exact hj

theorem zeroCells_length (z : List Value) (m : Nat) : (Builtin.zeroCells ⟨z⟩ m).toList.length = m * z.length := by
  simp [Builtin.zeroCells]

theorem mul_sub_le (c n m e : Nat) : (c - n) * e - m * e = (c - (n + m)) * e := by
  rw [← Nat.sub_mul]; congr 1; omega

theorem appC_own {bytes m : Nat} {zero ys : List Value} {K : Option Addr → Nat → Nat → WK} (h : St W w L) (hk : L[k]? = some (own b n c e xs)) (hy : ys.length = m * e) (hz : zero.length = e)
    (hbound : (n + m) * bytes ≤ 140737488355328) (hmax : n + m ≤ 9223372036854775807) (h1 : ∀ v ∈ ys, v.oneCell' = true)
    (hK : ∀ b' c' w', St W w' (L.set k (own b' (n + m) c' e (xs ++ ys))) → K b' (n + m) c' w') : appC e bytes zero b n c m ys K w := by
  have hkl := (List.getElem?_eq_some_iff.1 hk).1
  obtain ⟨hl, h0⟩ := h.own_cases hk
  refine ⟨fun hle => ⟨fun a ha => ?_, fun hb => ?_⟩, fun hlt => ⟨hbound, by omega, xs, ?_, ?_, fun c' t hc' => ?_⟩⟩
  · rcases h0 with h0 | ⟨r, sp, hb, hnc, hsp, hs⟩
    · rw [h0.1] at ha; cases ha
    · subst hb; cases ha
      rw [add_mk, Nat.zero_add]
      have hroom : n * e + 0 + ys.length ≤ (xs ++ sp).length := by
        rw [List.length_append, hl, hsp, hy, Nat.add_zero, ← Nat.add_mul, ← Nat.add_mul]
        exact Nat.mul_le_mul_right e (by omega)
      obtain ⟨hc, hs2⟩ := St.setL ys (n * e) 0 hs (set_get hk) hroom h1
      refine ⟨hc, hK _ _ _ ?_⟩
      rw [List.set_set, Nat.add_zero] at hs2
      have e1 : over (xs ++ sp) (n * e) ys = (xs ++ ys) ++ sp.drop ys.length := by
        unfold over
        rw [← hl, List.take_left' rfl, List.drop_append, List.drop_of_length_le (by omega)]
        simp
      rw [e1] at hs2
      refine St.own_of hkl (by rw [List.length_append, hl, hy, Nat.add_mul]) hle ?_ hs2
      rw [List.length_drop, hsp, hy]
      exact mul_sub_le c n m e
  · rcases h0 with h0 | ⟨r, sp, hb', hnc, hsp, hs⟩
    · obtain ⟨rfl, rfl, rfl⟩ := h0
      have hm : m = 0 := by omega
      subst hm
      have hye : ys = [] := List.eq_nil_of_length_eq_zero (by simpa using hy)
      have hxe : xs = [] := List.eq_nil_of_length_eq_zero (by simpa using hl)
      subst hye hxe
      refine hK _ _ _ ?_
      rw [List.append_nil, set_same hk]; exact h
    · rw [hb'] at hb; cases hb
  · rcases h0 with h0 | ⟨r, sp, hb, hnc, hsp, hs⟩
    · obtain ⟨rfl, rfl, rfl⟩ := h0; exact ⟨hl, fun a ha => by cases ha⟩
    · subst hb
      refine ⟨hl, fun a ha => ?_⟩
      cases ha
      exact Holds_pt hs (set_get hk) fun j v hj => by
        rw [Nat.zero_add, List.getElem?_append_left (List.getElem?_eq_some_iff.1 hj).1]; exact hj
  · intro hb
    rcases h0 with h0 | ⟨r, sp, hb', _⟩
    · exact h0.2.1
    · rw [hb'] at hb; cases hb
  · refine hK _ _ _ ?_
    have hnew := (h.focus hk).drop.drew.new ((xs ++ ys) ++ (Builtin.zeroCells ⟨zero⟩ (c' - (n + m))).toList) t
    rw [World.size_drew] at hnew
    have earr : ((xs ++ ys).toArray ++ Builtin.zeroCells ⟨zero⟩ (c' - (n + m)) : Array Value) = ⟨(xs ++ ys) ++ (Builtin.zeroCells ⟨zero⟩ (c' - (n + m))).toList⟩ := by
      apply Array.ext'; simp
    rw [earr]
    refine St.unfocus (A := own b n c e xs) ?_ hk
    exact hnew.mono fun g hp => ⟨by rw [List.length_append, hl, hy, Nat.add_mul], .inr ⟨_, _, rfl, hc', by rw [zeroCells_length, hz], hp⟩⟩

theorem appSl_own {bytes m : Nat} {zero ys : List Value} {b' : Option Addr} {K : Option Addr → Nat → Nat → WK} (h : St W w L) (hk : L[k]? = some (own b n c e xs)) (hsrc : Src w m e b' ys) (hb' : b' = none → m = 0) (hz : zero.length = e)
    (hbound : (n + m) * bytes ≤ 140737488355328) (hmax : n + m ≤ 9223372036854775807) (h1 : ∀ v ∈ ys, v.oneCell' = true)
    (hK : ∀ b' c' w', St W w' (L.set k (own b' (n + m) c' e (xs ++ ys))) → K b' (n + m) c' w') : appSl e bytes zero b n c b' m K w :=
  ⟨ys, hsrc, hb', appC_own h hk hsrc.1 hz hbound hmax h1 hK⟩

theorem strCells_one (s : ByteArray) : ∀ v ∈ strCells s, v.oneCell' = true := by
  intro v hv
  simp only [strCells, List.mem_map] at hv
  obtain ⟨x, _, rfl⟩ := hv
  rfl

theorem strCells_length (s : ByteArray) : (strCells s).length = s.size := by simp [strCells]

theorem appStr_own {s : ByteArray} {K : Option Addr → Nat → Nat → WK} {xs : List Value} (h : St W w L) (hk : L[k]? = some (own b n c 1 xs)) (hbound : n + s.size ≤ 140737488355328)
    (hK : ∀ b' c' w', St W w' (L.set k (own b' (n + s.size) c' 1 (xs ++ strCells s))) → K b' (n + s.size) c' w') : appStr b n c s K w :=
  appC_own h hk (by rw [strCells_length]; omega) rfl (by omega) (by omega) (strCells_one s) hK

theorem mkSl_own {bytes : Nat} {zero : List Value} {len cap : Int} {K : Option Addr → Nat → Nat → WK} (h : St W w L) (h0 : 0 ≤ len ∧ len ≤ cap ∧ cap ≤ 9223372036854775807 ∧ cap * bytes ≤ 281474976710656)
    (hK : ∀ r w', St W w' (own (some ⟨r, 0, none⟩) len.toNat cap.toNat zero.length (Builtin.zeroCells ⟨zero⟩ len.toNat).toList :: L) → K (some ⟨r, 0, none⟩) len.toNat cap.toNat w') : mkSl bytes zero len cap K w := by
  refine ⟨h0, fun t => hK _ _ ?_⟩
  have hnew := h.new (Builtin.zeroCells ⟨zero⟩ cap.toNat).toList t
  refine St.mono hnew fun g hp => ⟨zeroCells_length _ _, .inr ⟨_, (Builtin.zeroCells ⟨zero⟩ (cap.toNat - len.toNat)).toList, rfl, by omega, zeroCells_length _ _, ?_⟩⟩
  have hsplit : (Builtin.zeroCells ⟨zero⟩ cap.toNat).toList = (Builtin.zeroCells ⟨zero⟩ len.toNat).toList ++ (Builtin.zeroCells ⟨zero⟩ (cap.toNat - len.toNat)).toList := by
    have key : ∀ p q, (Builtin.zeroCells ⟨zero⟩ (p + q)).toList = (Builtin.zeroCells ⟨zero⟩ p).toList ++ (Builtin.zeroCells ⟨zero⟩ q).toList := by
      intro p q
      simp only [Builtin.zeroCells, Array.toList_map, Array.toList_range]
      rw [Nat.add_mul, List.range_add, List.map_append, List.map_map]
      congr 1
      apply List.map_congr_left
      intro j _
      simp only [Function.comp]
      congr 1
      rw [Nat.add_comm, Nat.add_mul_mod_self_right]
    rw [← key]; congr 2; omega
  rw [← hsplit]; exact hp

end
end Go.Sep
