/- Layer 6: a record that flies, and the power that goes. -/
import Derived.Test.YtidhimamegfdaaaDoorJo4
namespace Go.Sep
open Go.Den Go.RowKit Go.Prog Go.Plat
set_option linter.unusedSimpArgs false
set_option linter.unusedVariables false

theorem sync_zero {D : Disk} (h : D.sync.2 = 0) : D.sync.1.later = [] := by
  unfold Disk.sync at h ⊢
  split at h
  · simp at h
  · rename_i hf; rw [if_neg hf]

theorem ls_zero {D : Disk} {at' to number : Int} {s : ByteArray} (h : (lsync D at' to number s).2 = 0) : (lsync D at' to number s).1.later = [] := by
  unfold lsync at h ⊢
  split at h
  · rename_i hh; exact absurd h hh
  · rename_i hh; rw [if_neg hh]; exact sync_zero h

theorem crash_calm {D : Disk} (h : D.later = []) (mask torn cut : Int) (j : Int) : (D.crash mask torn cut).read j = D.read j := by
  have e : D.crash mask torn cut = ⟨D.safe, [], D.ops, 0⟩ := by rw [crash_eq, h]; rfl
  rw [e]
  unfold Disk.read Disk.is Disk.now
  rw [h]

theorem layF_code {at' number : Int} {s : ByteArray} (hnum : 1 ≤ number ∧ number ≤ 1152921504606846976) (hat : 0 ≤ at') : ∀ (n i : Nat) {D : Disk}, at' + i + n ≤ D.safe.length → i + n ≤ 4096 → (layF at' number s D i n).2 = 0 ∨ (layF at' number s D i n).2 = 8
  | 0, i, D, hr, hi => .inl rfl
  | n + 1, i, D, hr, hi => by
    have hg : Good number i (part s i) := ⟨hnum.1, hnum.2, by omega, by omega, part_size s i⟩
    have hsz := leaf_size hg
    have hi' : D.is (at' + i) := ⟨by omega, by omega⟩
    have hbad : ¬ (¬ D.is (at' + i) ∨ 128 < (leaf number i (part s i)).size) := by
      rintro (hh | hh)
      · exact hh hi'
      · omega
    have hsafe := (write_len D (at' + i) (leaf number i (part s i))).1
    have hw : D.write (at' + i) (leaf number i (part s i)) = if D.fails then (D.tick, 8) else ({ Go.Plat.Disk.tick D with later := D.later ++ [(at' + i, Disk.pad (leaf number i (part s i)))] }, 0) := by
      unfold Disk.write
      rw [if_neg hbad]
    unfold layF
    cases hf : D.fails with
    | true =>
      rw [hf, if_pos rfl] at hw
      rw [hw, if_pos (by simp)]
      exact .inr rfl
    | false =>
      rw [hf, if_neg Bool.noConfusion] at hw
      have h0 : (D.write (at' + i) (leaf number i (part s i))).2 = 0 := by rw [hw]
      rw [if_neg (by rw [h0]; exact fun hh => hh rfl)]
      exact layF_code hnum hat (s := s) n (i + 1) (D := (D.write (at' + i) (leaf number i (part s i))).1) (by rw [hsafe]; omega) (by omega)

theorem ls_code {n a t : Nat} {D : Disk} {number : Int} {s : ByteArray} (hlen : D.safe.length = n) (h4096 : n ≤ 4096) (hnum : 1 ≤ number ∧ number ≤ 1152921504606846976) (hl : a + cnt s.size ≤ t) (htn : t ≤ n) : (lsync D a t number s).2 = 0 ∨ (lsync D a t number s).2 = 8 := by
  have hcp := cnt_pos s.size
  have e : lay D (a : Nat) ((t : Nat) : Int) number s = layF (a : Nat) number s D 0 (cnt s.size) := by
    unfold lay
    rw [if_neg (by rw [hlen]; omega), if_neg (by omega)]
  have hc := layF_code (at' := ((a : Nat) : Int)) (number := number) (s := s) hnum (by omega) (cnt s.size) 0 (D := D) (by rw [hlen]; omega) (by omega)
  unfold lsync
  rw [e]
  split
  · exact hc
  · unfold Disk.sync
    split
    · exact .inr rfl
    · exact .inl rfl

theorem readV_num {g : Nat} {X : ByteArray} {m j : Int} {d : ByteArray} (he : Ends g X) (hg : g < 256) (h : readV X.data.toList = some (m, j, d)) : m ≤ g := by
  obtain ⟨hx, hgd⟩ := readV_inv h
  obtain ⟨_, ⟨a, ha, h8⟩, _⟩ := he
  rw [hx, leafL_take8] at h8
  have e1 := numL_le8 (n := m) ⟨by have := hgd.1; omega, hgd.2.1⟩
  have e2 := numL_le8 (n := (a : Int)) ⟨by omega, by omega⟩
  rw [h8, e2] at e1
  omega

theorem nextF_congr {D D' : Disk} {a to q : Int} (hlen : D'.safe.length = D.safe.length) (hr : ∀ j : Int, a ≤ j → j < to → (D'.read j).1 = (D.read j).1) : nextF D' a to q = nextF D a to q := by
  cases h : nextF D a to q with
  | some y =>
    obtain ⟨s, a2⟩ := y
    have := nextF_in h
    exact nextF_keeps h hlen (fun j h1 h2 => hr j h1 (by omega))
  | none =>
    cases h' : nextF D' a to q with
    | none => rfl
    | some y =>
      obtain ⟨s, a2⟩ := y
      have := nextF_in h'
      have := nextF_keeps h' hlen.symm (fun j h1 h2 => (hr j h1 (by omega)).symm)
      rw [h] at this
      cases this

/-- A journal on a disk of which nothing is pending. -/
structure JG (n : Nat) (D : Disk) (J : PJ) (q0 : Int) (recs : List (List UInt8)) (g : Nat) : Prop where
  ok : D.Ok
  lat : D.later = []
  len : D.safe.length = n
  jok : J.Ok D
  chain : Chain D J.hi J.lo q0 recs J.at'
  seq : J.seq = q0 + recs.length
  q0 : 0 ≤ q0
  low : ∀ j : Int, J.lo ≤ j → j < J.hi → ∀ m d, readV (D.read j).1.data.toList = some (m, 0, d) → seqOf d ≤ J.seq + 1
  stop : nextF D J.at' J.hi (J.seq + 1) = none
  ends : ∀ j : Nat, j < n → Ends g (D.read (j : Int)).1

theorem JG.congr {n : Nat} {D D' : Disk} {J : PJ} {q0 : Int} {recs : List (List UInt8)} {g : Nat} (h : JG n D J q0 recs g) (hok : D'.Ok) (hlat : D'.later = []) (hlen : D'.safe.length = n) (hr : ∀ j : Int, 0 ≤ j → j < n → (D'.read j).1 = (D.read j).1) : JG n D' J q0 recs g := by
  have hl : D'.safe.length = D.safe.length := by rw [hlen, h.len]
  have j1 := h.jok.lo
  have j2 := h.jok.at1
  have j3 := h.jok.at2
  have j4 := h.jok.hi
  have j5 := h.len
  refine ⟨hok, hlat, hlen, ⟨j1, j2, j3, by rw [hl]; exact j4, h.jok.seq⟩, chain_keeps hl _ h.chain (fun j a b => hr j (by omega) (by omega)), h.seq, h.q0, fun j a b m d hv => ?_, ?_, fun j hj => ?_⟩
  · rw [hr j (by omega) (by omega)] at hv; exact h.low j a b m d hv
  · rw [nextF_congr hl (fun j a b => hr j (by omega) (by omega))]; exact h.stop
  · rw [hr j (by omega) (by omega)]; exact h.ends j hj

theorem JG.opened {n : Nat} {D : Disk} {J : PJ} {q0 : Int} {recs : List (List UInt8)} {g : Nat} (h : JG n D J q0 recs g) : openJ D J.hi J.lo q0 = (recs, J.at', J.seq) := by
  have := h.stop
  rw [h.seq] at this
  rw [chain_open recs h.chain this, h.seq]

theorem leaf_inj {m m' : Int} {i : Int} {p p' : ByteArray} (h : Good m i p) (h' : Good m' i p') (e : leaf m i p = leaf m' i p') : m = m' ∧ p = p' := by
  have e2 : readV (leaf m i p).data.toList = readV (leaf m' i p').data.toList := by rw [e]
  rw [leaf_list h, leaf_list h', readV_leaf h, readV_leaf h'] at e2
  simp only [Option.some.injEq, Prod.mk.injEq] at e2
  exact ⟨e2.1, e2.2.2⟩

/-- While a record is being added the power goes: it is there whole, or all is as it was. -/
theorem fly {n : Nat} {D : Disk} {J : PJ} {q0 : Int} {recs : List (List UInt8)} {g m : Nat} {s : ByteArray} (h : JG n D J q0 recs g) (h4096 : n ≤ 4096) (hm : g < m) (hm2 : m < 256) (hr : room J s.size) (hsq : J.seq < 1152921504606846976) (mask torn cut : Int) :
    ((lsync D J.at' J.hi m (bs (frameL (J.seq + 1) s))).2 = 0 ∨ (lsync D J.at' J.hi m (bs (frameL (J.seq + 1) s))).2 = 8) ∧
    ((lsync D J.at' J.hi m (bs (frameL (J.seq + 1) s))).2 = 0 → ∀ i : Nat, i < cnt (12 + s.size) → (((lsync D J.at' J.hi m (bs (frameL (J.seq + 1) s))).1.crash mask torn cut).read (J.at' + i)).1 = leaf m i (part (bs (frameL (J.seq + 1) s)) i)) ∧
    ((∀ i : Nat, i < cnt (12 + s.size) → (((lsync D J.at' J.hi m (bs (frameL (J.seq + 1) s))).1.crash mask torn cut).read (J.at' + i)).1 = leaf m i (part (bs (frameL (J.seq + 1) s)) i)) →
      JG n ((lsync D J.at' J.hi m (bs (frameL (J.seq + 1) s))).1.crash mask torn cut) (J.more s) q0 (recs ++ [s.data.toList]) m) ∧
    ((¬ ∀ i : Nat, i < cnt (12 + s.size) → (((lsync D J.at' J.hi m (bs (frameL (J.seq + 1) s))).1.crash mask torn cut).read (J.at' + i)).1 = leaf m i (part (bs (frameL (J.seq + 1) s)) i)) →
      JG n ((lsync D J.at' J.hi m (bs (frameL (J.seq + 1) s))).1.crash mask torn cut) J q0 recs m) := by
  obtain ⟨j1, j2, j3, j4, j5⟩ := h.jok
  obtain ⟨r1, r2, r3⟩ := hr
  rw [Int.toNat_natCast] at r3
  have hlen := h.len
  have hcp := cnt_pos (12 + s.size)
  have hfs := frame_size (J.seq + 1) s
  obtain ⟨a, ha⟩ := Int.eq_ofNat_of_zero_le (show 0 ≤ J.at' by omega)
  obtain ⟨t, ht⟩ := Int.eq_ofNat_of_zero_le (show 0 ≤ J.hi by omega)
  have hcode := ls_code (n := n) (a := a) (t := t) (number := m) (s := bs (frameL (J.seq + 1) s)) hlen h4096 (by omega) (by rw [hfs]; omega) (by omega)
  obtain ⟨c1, c2, c3, c4⟩ := ls_crash (n := n) (a := a) (t := t) (number := m) (mask := mask) (torn := torn) (cut := cut) (s := bs (frameL (J.seq + 1) s)) h.ok h.lat hlen h4096 (by omega) (by rw [hfs]; omega) (by omega)
  have hlat2 : ((lsync D (a : Int) (t : Int) m (bs (frameL (J.seq + 1) s))).1.crash mask torn cut).later = [] := by rw [crash_eq]
  rw [hfs] at c1 c2
  rw [ha, ht]
  generalize (lsync D (a : Int) (t : Int) m (bs (frameL (J.seq + 1) s))).2 = code at *
  generalize (lsync D (a : Int) (t : Int) m (bs (frameL (J.seq + 1) s))).1.crash mask torn cut = D2 at *
  have hcn : cnt (12 + s.size) ≤ 4096 := by omega
  have hgd : ∀ i : Nat, i < 4096 → Good m (i : Int) (part (bs (frameL (J.seq + 1) s)) i) := fun i hi => ⟨by omega, by omega, by omega, by omega, part_size _ i⟩
  -- each sector
  have sec : ∀ j : Nat, j < n → Ends m (D2.read (j : Int)).1 ∧ ((D2.read (j : Int)).1 = (D.read (j : Int)).1 ∨ (∃ i, i < cnt (12 + s.size) ∧ j = a + i ∧ ((D2.read (j : Int)).1 = leaf m i (part (bs (frameL (J.seq + 1) s)) i) ∨ readV (D2.read (j : Int)).1.data.toList = none))) := fun j hj => by
    rcases c1 j hj with hh | ⟨i, h1, h2, h3⟩
    · rw [hh]; exact ⟨(h.ends j hj).mono (by omega), .inl rfl⟩
    · obtain ⟨e1, e2⟩ := mix_cases hm hm2 (hgd i (by omega)) (h.ends j hj) h3
      refine ⟨e1, ?_⟩
      rcases e2 with e2 | e2 | e2
      · exact .inl e2
      · exact .inr ⟨i, h1, h2, .inl e2⟩
      · exact .inr ⟨i, h1, h2, .inr e2⟩
  have out : ∀ j : Int, 0 ≤ j → j < n → (j < a ∨ a + (cnt (12 + s.size) : Int) ≤ j) → (D2.read j).1 = (D.read j).1 := fun j h1 h2 h3 => by
    obtain ⟨k, rfl⟩ := Int.eq_ofNat_of_zero_le h1
    rcases c1 k (by omega) with hh | ⟨i, h4, h5, _⟩
    · exact hh
    · omega
  have hl2 : D2.safe.length = D.safe.length := by rw [c4, hlen]
  have hpr := part0_reads (seq := J.seq + 1) (s := s) ⟨by omega, by omega⟩ (by omega)
  have low2 : ∀ j : Int, J.lo ≤ j → j < J.hi → ∀ x d, readV (D2.read j).1.data.toList = some (x, 0, d) → seqOf d ≤ J.seq + 1 := fun j h1 h2 x d hv => by
    obtain ⟨k, rfl⟩ := Int.eq_ofNat_of_zero_le (show 0 ≤ j by omega)
    rcases (sec k (by omega)).2 with hh | ⟨i, hi, _, hh | hh⟩
    · rw [hh] at hv; exact h.low _ h1 h2 x d hv
    · rw [hh, leaf_list (hgd i (by omega)), readV_leaf (hgd i (by omega))] at hv
      simp only [Option.some.injEq, Prod.mk.injEq] at hv
      obtain ⟨_, hi0, hd⟩ := hv
      have : i = 0 := by omega
      subst this
      rw [← hd, hpr.1]
      exact Int.le_refl _
    · rw [hh] at hv; cases hv
  have chain2 : Chain D2 J.hi J.lo q0 recs J.at' := chain_keeps hl2 _ h.chain (fun j h1 h2 => out j (by omega) (by omega) (by omega))
  have hends2 : ∀ j : Nat, j < n → Ends m (D2.read (j : Int)).1 := fun j hj => (sec j hj).1
  refine ⟨hcode, fun h0 i hi => ?_, fun hw => ?_, fun hnw => ?_⟩
  · have := c2 h0 i hi
    rw [show (a : Int) + (i : Int) = ((a + i : Nat) : Int) from by omega]
    exact this
  · have hthere := nextF_there (D := D2) (a := J.at') (to := J.hi) (n := m) (q := J.seq + 1) (s := s) (by omega) (by omega) (by omega) (by omega) (by omega) (by omega) (by omega) (by rw [ha]; exact hw)
    refine ⟨c3, hlat2, c4, ⟨j1, ?_, ?_, ?_, ?_⟩, ?_, ?_, h.q0, fun j h1 h2 x d hv => ?_, ?_, hends2⟩
    · show J.lo ≤ J.at' + _; omega
    · show J.at' + _ ≤ J.hi; omega
    · show J.hi ≤ _; omega
    · show 0 ≤ J.seq + 1 ∧ J.seq + 1 ≤ _; omega
    · show Chain D2 J.hi J.lo q0 _ (J.at' + _)
      refine chain_snoc recs chain2 ?_
      rw [← h.seq]; exact hthere
    · show J.seq + 1 = _
      rw [h.seq, List.length_append, List.length_cons, List.length_nil]; omega
    · show seqOf d ≤ J.seq + 1 + 1
      have := low2 j h1 h2 x d hv
      omega
    · show nextF D2 (J.at' + (cnt (12 + s.size) : Int)) J.hi (J.seq + 1 + 1) = none
      by_cases hend : J.hi ≤ J.at' + (cnt (12 + s.size) : Int)
      · exact nextF_end hend
      · refine nextF_low (fun x d hv => ?_)
        have := low2 _ (by omega) (by omega) x d hv
        omega
  · refine ⟨c3, hlat2, c4, ⟨j1, j2, j3, by omega, j5⟩, chain2, h.seq, h.q0, low2, ?_, hends2⟩
    cases hx : nextF D2 J.at' J.hi (J.seq + 1) with
    | none => rfl
    | some y =>
      exfalso
      obtain ⟨s2, a2⟩ := y
      obtain ⟨i1, i2, i3, i4, i5, i6⟩ := nextF_in hx
      obtain ⟨x, d, x1, x2, hv, hsec⟩ := nextF_inv (by omega) hx
      have hcp2 := cnt_pos (12 + s2.length)
      have hgd2 : ∀ i : Nat, i < 4096 → Good x (i : Int) (part (bs (frameL (J.seq + 1) (bs s2))) i) := fun i hi => ⟨x1, x2, by omega, by omega, part_size _ i⟩
      have hpr2 := part0_reads (seq := J.seq + 1) (s := bs s2) ⟨by omega, by omega⟩ (by rw [bs_size]; omega)
      have rd : ∀ i : Nat, i < cnt (12 + s2.length) → readV (D2.read ((a + i : Nat) : Int)).1.data.toList = some (x, (i : Int), part (bs (frameL (J.seq + 1) (bs s2))) i) := fun i hi => by
        have := hsec i hi
        rw [ha, show (a : Int) + (i : Int) = ((a + i : Nat) : Int) from by omega] at this
        rw [this, leaf_list (hgd2 i (by omega)), readV_leaf (hgd2 i (by omega))]
      -- by the first sector's number
      rcases (sec a (by omega)).2 with hh | ⟨i, hi, hai, hh | hh⟩
      · -- the old one: then all are the old ones
        have r0 := rd 0 hcp2
        rw [Nat.add_zero, hh] at r0
        have hxg := readV_num (h.ends a (by omega)) (by omega) r0
        have all : ∀ j : Int, J.at' ≤ j → j < a2 → (D.read j).1 = (D2.read j).1 := fun j h1 h2 => by
          obtain ⟨k, hk⟩ := Int.eq_ofNat_of_zero_le (show 0 ≤ j - a by omega)
          have hj : j = ((a + k : Nat) : Int) := by omega
          subst hj
          rcases (sec (a + k) (by omega)).2 with e | ⟨i, hi, hai, e | e⟩
          · exact e.symm
          · exfalso
            have hik : i = k := by omega
            subst hik
            have r := rd i (by omega)
            rw [e, leaf_list (hgd i (by omega)), readV_leaf (hgd i (by omega))] at r
            simp only [Option.some.injEq, Prod.mk.injEq] at r
            have := r.1
            omega
          · exfalso
            have r := rd k (by omega)
            rw [e] at r; cases r
        have := nextF_keeps hx hl2.symm all
        rw [h.stop] at this
        cases this
      · -- the new one: then all are
        have hi0 : i = 0 := by omega
        subst hi0
        have r0 := rd 0 hcp2
        rw [Nat.add_zero, hh, leaf_list (hgd 0 (by omega)), readV_leaf (hgd 0 (by omega))] at r0
        simp only [Option.some.injEq, Prod.mk.injEq] at r0
        obtain ⟨hxm, _, hp0⟩ := r0
        have hsz : s2.length = s.size := by
          have e1 := hpr.2.2
          have e2 := hpr2.2.2
          rw [hp0] at e1
          rw [e1, bs_size] at e2
          omega
        refine hnw fun i hi => ?_
        rw [show (a : Int) + (i : Int) = ((a + i : Nat) : Int) from by omega]
        have r := rd i (by rw [hsz]; exact hi)
        rcases (sec (a + i) (by omega)).2 with e | ⟨i', hi', hai', e | e⟩
        · exfalso
          rw [e] at r
          have := readV_num (h.ends (a + i) (by omega)) (by omega) r
          omega
        · have : i' = i := by omega
          subst this
          exact e
        · rw [e] at r; cases r
      · have hi0 : i = 0 := by omega
        subst hi0
        have r0 := rd 0 hcp2
        rw [Nat.add_zero, hh] at r0
        cases r0
end Go.Sep
