/- The law CrownCrash. -/
import Derived.Test.YtidhimamegfdaaaDoorMixA
import Derived.Test.YtidhimamegfdaaaDoorCrC
namespace Go.Sep
open Go.Den Go.RowKit Go.Prog Go.Plat
set_option linter.unusedSimpArgs false
set_option linter.unusedVariables false

theorem cput_eq {D : Disk} {number : Int} {h : PHead} (hg : HGood h) : ∃ a : Nat, (a : Int) = low h.turn ∧ a < 2 ∧ cput D number h = lsync D a (a + 1 : Nat) number (bs (headL h)) := by
  have hl := low_in h.turn
  refine ⟨(low h.turn).toNat, by omega, by omega, ?_⟩
  unfold cput lsync
  rw [if_pos hg]
  have e1 : (((low h.turn).toNat : Nat) : Int) = low h.turn := by omega
  have e2 : (((low h.turn).toNat + 1 : Nat) : Int) = low h.turn + 1 := by omega
  rw [e1, e2]

theorem cnt_head (h : PHead) : cnt (bs (headL h)).size = 1 := by rw [bs_size, headL_length]; rfl

theorem part_head (h : PHead) : part (bs (headL h)) 0 = bs (headL h) := by
  apply bytes_ext
  unfold part
  rw [extract_toList, Nat.mul_zero, List.drop_zero, List.take_of_length_le]
  show (headL h).length ≤ _
  rw [headL_length]; decide

/-- What a head that was put tells. -/
theorem atH_leaf {D : Disk} {i : Nat} {n : Int} {h : PHead} (hn : 1 ≤ n ∧ n ≤ 1152921504606846976) (hg : HGood h) (hi : (i : Int) = low h.turn) (hr : D.read (i : Int) = (leaf n 0 (bs (headL h)), 0)) : atH D i = some h := by
  have hgd : Good n 0 (bs (headL h)) := ⟨hn.1, hn.2, by decide, by decide, by rw [bs_size, headL_length]; decide⟩
  unfold atH
  rw [hr]
  dsimp only
  rw [leaf_list hgd, readV_leaf hgd]
  dsimp only
  rw [if_neg (by simp), show (bs (headL h)).data.toList = headL h from rfl, headL_readH hg]
  dsimp only
  rw [if_neg (fun hh => hh hi.symm)]

theorem atH_none {D : Disk} {i : Nat} (hr : readV (D.read (i : Int)).1.data.toList = none) : atH D i = none := by
  unfold atH
  rw [hr]

theorem low_nat' {n : Int} (h : 0 ≤ n ∧ n ≤ 1152921504606846977) : low n = n.tmod 2 := by
  obtain ⟨m, rfl⟩ := Int.eq_ofNat_of_zero_le h.1
  have e : m % 2 ^ 64 = m := Nat.mod_eq_of_lt (by omega)
  rw [low_nat, BitVec.ofInt_natCast, BitVec.toNat_ofNat, e, Int.tmod_eq_emod_of_nonneg (by omega)]
  omega

theorem read_code {D : Disk} {i : Nat} (h : i < D.safe.length) : (D.read (i : Int)).2 = 0 := by
  unfold Disk.read
  rw [if_pos ⟨by omega, by omega⟩]

/-- Both places behind the crash: the older head's stands; the newer one's is whole, or as it was, or tells nothing. -/
theorem crown_crash {D : Disk} {h next prev : PHead} {a b : Nat} {mask torn cut : Int} (hok : D.Ok) (hlat : D.later = []) (hlen : D.safe.length = 4) (hg : HGood h) (hg2 : HGood next) (ha : (a : Int) = low h.turn) (hb : (b : Int) = low next.turn) (hab : a ≠ b) (hlt : h.turn < next.turn)
    (hra : (D.read (a : Int)).1 = leaf 2 0 (bs (headL h))) (hrb : (D.read (b : Int)).1 = zeros 128 ∨ (HGood prev ∧ low prev.turn = low next.turn ∧ prev.turn < h.turn ∧ (D.read (b : Int)).1 = leaf 1 0 (bs (headL prev)))) (hrest : ∀ j : Nat, j < 4 → Ends 2 (D.read (j : Int)).1) :
    ∃ D2, D2 = (cput D 3 next).1.crash mask torn cut ∧ D2.Ok ∧ D2.safe.length = 4 ∧ grTo D2 4 ≤ 3 ∧ ((cput D 3 next).2 = 0 → (D2.read (b : Int)).1 = leaf 3 0 (bs (headL next))) ∧
      newestH (atH D2 0) (atH D2 1) = some (if (D2.read (b : Int)).1 = leaf 3 0 (bs (headL next)) then next else h) := by
  refine ⟨_, rfl, ?_⟩
  have hgd3 : Good 3 0 (bs (headL next)) := ⟨by decide, by decide, by decide, by decide, by rw [bs_size, headL_length]; decide⟩
  obtain ⟨b', hb', hb2, e⟩ := cput_eq (D := D) (number := 3) hg2
  obtain rfl : b' = b := by omega
  rw [e]
  obtain ⟨c1, c2, c3, c4⟩ := ls_crash (n := 4) (a := b') (t := b' + 1) (number := 3) (mask := mask) (torn := torn) (cut := cut) (s := bs (headL next)) hok hlat hlen (by decide) (by decide) (by rw [cnt_head]; omega) (by omega)
  rw [cnt_head] at c1 c2
  generalize (lsync D b' (b' + 1 : Nat) 3 (bs (headL next))).2 = code at *
  generalize (lsync D b' (b' + 1 : Nat) 3 (bs (headL next))).1.crash mask torn cut = D2 at *
  have ha4 : a < 4 := by have := low_in h.turn; omega
  have sa : (D2.read (a : Int)).1 = leaf 2 0 (bs (headL h)) := by
    rcases c1 a ha4 with hh | ⟨q, h1, h2, _⟩
    · rw [hh, hra]
    · omega
  have mb : Mix (D.read (b' : Int)).1 (leaf 3 0 (bs (headL next))) (D2.read (b' : Int)).1 := by
    rcases c1 b' (by omega) with hh | ⟨q, h1, h2, h3⟩
    · rw [hh]; exact .inl rfl
    · have : q = 0 := by omega
      subst this
      rw [part_head] at h3
      exact h3
  obtain ⟨mb1, mb2⟩ := mix_cases (n := 3) (g := 2) (by decide) (by decide) hgd3 (hrest b' (by omega)) mb
  have hends : ∀ j : Nat, j < 4 → Ends 3 (D2.read (j : Int)).1 := fun j hj => by
    rcases c1 j hj with hh | ⟨q, h1, h2, h3⟩
    · rw [hh]; exact (hrest j hj).mono (by decide)
    · have : j = b' := by omega
      subst this
      exact mb1
  have hrd : ∀ i : Nat, i < 4 → ∀ X, (D2.read (i : Int)).1 = X → D2.read (i : Int) = (X, 0) := fun i hi X hX => by
    have := read_code (D := D2) (i := i) (by omega)
    rw [← hX, ← this]
  have eA : atH D2 a = some h := atH_leaf (n := 2) (by decide) hg ha (hrd a ha4 _ sa)
  have new : ∀ x : Option PHead, atH D2 b' = x → newestH (atH D2 0) (atH D2 1) = (if a = 0 then newestH (some h) x else newestH x (some h)) := fun x hx => by
    by_cases ha0 : a = 0
    · have : b' = 1 := by omega
      subst ha0; subst this
      rw [eA, hx]; rfl
    · have h1 : a = 1 := by have := low_in h.turn; omega
      have h2 : b' = 0 := by omega
      subst h1; subst h2
      rw [eA, hx]; rfl
  refine ⟨c3, c4, grTo_ends (by decide) 4 hends, fun h0 => ?_, ?_⟩
  · have := c2 h0 0 (by decide)
    rw [part_head] at this
    exact this
  · by_cases hw : (D2.read (b' : Int)).1 = leaf 3 0 (bs (headL next))
    · rw [if_pos hw, new (some next) (atH_leaf (n := 3) (by decide) hg2 hb (hrd b' (by omega) _ hw))]
      by_cases ha0 : a = 0
      · rw [if_pos ha0]
        show (if h.turn < next.turn then some next else some h) = _
        rw [if_pos hlt]
      · rw [if_neg ha0]
        show (if next.turn < h.turn then some h else some next) = _
        rw [if_neg (by omega)]
    · rw [if_neg hw]
      have low1 : ∀ x : Option PHead, (x = none ∨ ∃ p, x = some p ∧ p.turn < h.turn) → (if a = 0 then newestH (some h) x else newestH x (some h)) = some h := fun x hx => by
        rcases hx with rfl | ⟨p, rfl, hp⟩
        · by_cases ha0 : a = 0
          · rw [if_pos ha0]; rfl
          · rw [if_neg ha0]; rfl
        · by_cases ha0 : a = 0
          · rw [if_pos ha0]
            show (if h.turn < p.turn then some p else some h) = _
            rw [if_neg (by omega)]
          · rw [if_neg ha0]
            show (if p.turn < h.turn then some h else some p) = _
            rw [if_pos hp]
      rcases mb2 with hh | hh | hh
      · rcases hrb with hz | ⟨g1, g2, g3, g4⟩
        · rw [new none (atH_none (by rw [hh, hz]; exact readV_zeros))]
          exact low1 none (.inl rfl)
        · rw [new (some prev) (atH_leaf (n := 1) (by decide) g1 (by rw [hb, g2]) (hrd b' (by omega) _ (by rw [hh, g4])))]
          exact low1 _ (.inr ⟨prev, rfl, g3⟩)
      · exact absurd hh hw
      · rw [new none (atH_none hh)]
        exact low1 none (.inl rfl)

section
variable {W w : World} {L : List HP}

theorem leaf_ends' {n : Nat} {h : PHead} (h1 : 1 ≤ n) (h2 : n < 256) : Ends n (leaf n 0 (bs (headL h))) :=
  ends_leaf ⟨by omega, by omega, by decide, by decide, by rw [bs_size, headL_length]; decide⟩

/-- A head that is put on a calm disk. -/
theorem cput_calm {D : Disk} {n : Int} {h : PHead} {a : Nat} (hc : Calm 4 D) (hn : 1 ≤ n ∧ n ≤ 1152921504606846976) (hg : HGood h) (ha : (a : Int) = low h.turn) :
    Calm 4 (cput D n h).1 ∧ ((cput D n h).1.read (a : Int)).1 = leaf n 0 (bs (headL h)) ∧ (∀ j : Nat, j < 4 → j ≠ a → ((cput D n h).1.read (j : Int)).1 = (D.read (j : Int)).1) ∧ (cput D n h).1.later = [] := by
  obtain ⟨a', ha', ha2, e⟩ := cput_eq (D := D) (number := n) hg
  obtain rfl : a' = a := by omega
  rw [e]
  obtain ⟨p1, p2, p3, p4⟩ := ls_fits (n := 4) (a := a') (t := a' + 1) (number := n) (s := bs (headL h)) hc (by decide) (by omega) (by rw [cnt_head]; omega) (by omega)
  have p5 := ls_later (n := 4) (a := a') (t := a' + 1) (number := n) (s := bs (headL h)) hc (by decide) (by omega) (by rw [cnt_head]; omega) (by omega)
  rw [cnt_head] at p3 p4
  refine ⟨p2, ?_, fun j hj hne => p4 j hj (by omega), p5⟩
  have := p3 0 (by decide)
  rw [part_head] at this
  have e0 : ((a' : Nat) : Int) + ((0 : Nat) : Int) = (a' : Int) := by omega
  rw [e0] at this
  exact this

theorem cput_ok {D : Disk} {n : Int} {h : PHead} (hok : D.Ok) (hl : D.later.length < 1000000) : (cput D n h).1.Ok := by
  by_cases hg : HGood h
  · obtain ⟨a, _, _, e⟩ := cput_eq (D := D) (number := n) hg
    rw [e]
    exact ls_ok hok (by rw [cnt_head]; omega)
  · unfold cput; rw [if_neg hg]; exact hok

theorem CCrash_tail {h next prev : PHead} {r1 r2 d : Nat} {D : Disk} {a b : Nat} {fail mask torn cut : Int} {K : VK} (hs : St W w (disk d D :: pt r2 (headCells next) :: pt r1 (headCells h) :: L)) (hc : Calm 4 D)
    (hg : HGood h) (hg2 : HGood next) (ht : next.turn = h.turn + 1) (ha : (a : Int) = low h.turn) (hb : (b : Int) = low next.turn) (hab : a ≠ b)
    (hz : ∀ j : Nat, j < 4 → j ≠ a → j ≠ b → (D.read (j : Int)).1 = zeros 128)
    (hrb : (D.read (b : Int)).1 = zeros 128 ∨ (HGood prev ∧ low prev.turn = low next.turn ∧ prev.turn < h.turn ∧ (D.read (b : Int)).1 = leaf 1 0 (bs (headL prev)))) (hK : ∀ w', St W w' L → K (.bool true) w') :
    bondstorelaw08_CrownCrash.j2 K r1 (some ⟨d, 0, none⟩) fail r2 mask torn cut w := by
  unfold bondstorelaw08_CrownCrash.j2
  refine ldN_pt (k := 2) (xs := headCells h) hs rfl rfl (fun j v hj => by rw [Nat.zero_add]; exact hj) ?_
  obtain ⟨p1, p2, p3, p5⟩ := cput_calm (n := 2) (a := a) hc (by decide) hg ha
  refine cPut_spec (k := 0) (h := h) hs rfl hc.ok (by have := hc.later; omega) fun w hs => ?_
  simp only [nn_some, add_mk, Nat.zero_add, Nat.add_zero, Nat.reduceAdd, Nat.reduceMul, Option.isNone_some, Option.isNone_none, br_true, br_false, Bool.not_true, Bool.not_false, xI_eq, xB_eq, xS_eq, xP_eq, xL_eq, x0_eq, x2_eq, x3_eq, chk_eq, true_and, and_true, List.set_cons_zero, List.set_cons_succ, List.eraseIdx_cons_zero, List.eraseIdx_cons_succ] at hs ⊢
  have hb4 : b < 4 := by have := low_in next.turn; omega
  have hrest : ∀ j : Nat, j < 4 → Ends 2 ((cput D 2 h).1.read (j : Int)).1 := fun j hj => by
    by_cases hja : j = a
    · subst hja; rw [p2]; exact leaf_ends' (n := 2) (by decide) (by decide)
    · rw [p3 j hj hja]
      by_cases hjb : j = b
      · subst hjb
        rcases hrb with hh | ⟨_, _, _, hh⟩
        · rw [hh]; exact ends_zeros.mono (by decide)
        · rw [hh]; exact (leaf_ends' (n := 1) (by decide) (by decide)).mono (by decide)
      · rw [hz j hj hja hjb]; exact ends_zeros.mono (by decide)
  rw [← p3 b hb4 (fun hh => hab hh.symm)] at hrb
  generalize (cput D 2 h).1 = D1 at *
  refine Disk_Arm_spec (k := 0) hs rfl fun w hs => ?_
  simp only [nn_some, add_mk, Nat.zero_add, Nat.add_zero, Nat.reduceAdd, Nat.reduceMul, Option.isNone_some, Option.isNone_none, br_true, br_false, Bool.not_true, Bool.not_false, xI_eq, xB_eq, xS_eq, xP_eq, xL_eq, x0_eq, x2_eq, x3_eq, chk_eq, true_and, and_true, List.set_cons_zero, List.set_cons_succ, List.eraseIdx_cons_zero, List.eraseIdx_cons_succ] at hs ⊢
  have hok1 := armed_ok p1.ok fail
  have hr1 : ∀ j : Nat, ((D1.armed fail).read (j : Int)).1 = (D1.read (j : Int)).1 := fun _ => rfl
  have hlat1 : (D1.armed fail).later = [] := p5
  have hlen1 : (D1.armed fail).safe.length = 4 := p1.len
  generalize D1.armed fail = DA at *
  refine ldN_pt (k := 1) (xs := headCells next) hs rfl rfl (fun j v hj => by rw [Nat.zero_add]; exact hj) ?_
  refine cPut_spec (k := 0) (h := next) hs rfl hok1 (by rw [hlat1]; decide) fun w hs => ?_
  simp only [nn_some, add_mk, Nat.zero_add, Nat.add_zero, Nat.reduceAdd, Nat.reduceMul, Option.isNone_some, Option.isNone_none, br_true, br_false, Bool.not_true, Bool.not_false, xI_eq, xB_eq, xS_eq, xP_eq, xL_eq, x0_eq, x2_eq, x3_eq, chk_eq, true_and, and_true, List.set_cons_zero, List.set_cons_succ, List.eraseIdx_cons_zero, List.eraseIdx_cons_succ] at hs ⊢
  have hpok : (cput DA 3 next).1.Ok := cput_ok hok1 (by rw [hlat1]; decide)
  obtain ⟨D2, hD2, c1, c2, c3, c4, c5⟩ := crown_crash (prev := prev) (mask := mask) (torn := torn) (cut := cut) hok1 hlat1 hlen1 hg hg2 ha hb hab (by omega) (by rw [hr1]; exact p2) (by rw [hr1]; exact hrb) (fun j hj => by rw [hr1]; exact hrest j hj)
  refine Disk_Crash_spec (k := 0) hs rfl hpok fun w hs => ?_
  simp only [nn_some, add_mk, Nat.zero_add, Nat.add_zero, Nat.reduceAdd, Nat.reduceMul, Option.isNone_some, Option.isNone_none, br_true, br_false, Bool.not_true, Bool.not_false, xI_eq, xB_eq, xS_eq, xP_eq, xL_eq, x0_eq, x2_eq, x3_eq, chk_eq, true_and, and_true, List.set_cons_zero, List.set_cons_succ, List.eraseIdx_cons_zero, List.eraseIdx_cons_succ] at hs ⊢
  rw [← hD2] at hs
  generalize (cput DA 3 next).2 = e at *
  refine Newest_spec (k := 0) hs rfl c1 fun w hs => ?_
  rw [c5, headRes_eq]
  simp only [nn_some, add_mk, Nat.zero_add, Nat.add_zero, Nat.reduceAdd, Nat.reduceMul, Option.isNone_some, Option.isNone_none, br_true, br_false, Bool.not_true, Bool.not_false, xI_eq, xB_eq, xS_eq, xP_eq, xL_eq, x0_eq, x2_eq, x3_eq, chk_eq, true_and, and_true, List.set_cons_zero, List.set_cons_succ, List.eraseIdx_cons_zero, List.eraseIdx_cons_succ]
  simp only [xA_eq]
  refine ⟨rfl, ?_⟩
  simp only [nn_some, add_mk, Nat.zero_add, Nat.add_zero, Nat.reduceAdd, Nat.reduceMul, Option.isNone_some, Option.isNone_none, br_true, br_false, Bool.not_true, Bool.not_false, xI_eq, xB_eq, xS_eq, xP_eq, xL_eq, x0_eq, x2_eq, x3_eq, chk_eq, true_and, and_true, List.set_cons_zero, List.set_cons_succ, List.eraseIdx_cons_zero, List.eraseIdx_cons_succ]
  refine mk_of hs fun r3 w hs => ?_
  refine ⟨rfl, stN_pt (k := 0) hs rfl (Nat.le_of_ble_eq_true rfl) (by simp [Value.oneCell', headCells]) fun w hs => ?_⟩
  rw [over_all (by simp [headCells])] at hs
  simp only [nn_some, add_mk, Nat.zero_add, Nat.add_zero, Nat.reduceAdd, Nat.reduceMul, Option.isNone_some, Option.isNone_none, br_true, br_false, Bool.not_true, Bool.not_false, xI_eq, xB_eq, xS_eq, xP_eq, xL_eq, x0_eq, x2_eq, x3_eq, chk_eq, true_and, and_true, List.set_cons_zero, List.set_cons_succ, List.eraseIdx_cons_zero, List.eraseIdx_cons_succ] at hs
  refine ld_pt (k := 2) hs rfl (v := .int .i64 next.turn) rfl ?_
  simp only [nn_some, add_mk, Nat.zero_add, Nat.add_zero, Nat.reduceAdd, Nat.reduceMul, Option.isNone_some, Option.isNone_none, br_true, br_false, Bool.not_true, Bool.not_false, xI_eq, xB_eq, xS_eq, xP_eq, xL_eq, x0_eq, x2_eq, x3_eq, chk_eq, true_and, and_true, List.set_cons_zero, List.set_cons_succ, List.eraseIdx_cons_zero, List.eraseIdx_cons_succ]
  refine ⟨by decide, ?_⟩
  have hlt := low_nat' (n := next.turn) (by have := hg2.1; have := hg2.2.1; omega)
  rw [← hlt, ← hb]
  refine Disk_Read_spec (k := 1) hs rfl c1 ?_
  simp only [nn_some, add_mk, Nat.zero_add, Nat.add_zero, Nat.reduceAdd, Nat.reduceMul, Option.isNone_some, Option.isNone_none, br_true, br_false, Bool.not_true, Bool.not_false, xI_eq, xB_eq, xS_eq, xP_eq, xL_eq, x0_eq, x2_eq, x3_eq, chk_eq, true_and, and_true, List.set_cons_zero, List.set_cons_succ, List.eraseIdx_cons_zero, List.eraseIdx_cons_succ]
  refine ldN_pt (k := 2) (xs := headCells next) hs rfl rfl (fun j v hj => by rw [Nat.zero_add]; exact hj) ?_
  refine bytes8_spec hs fun w hs => ?_
  simp only [nn_some, add_mk, Nat.zero_add, Nat.add_zero, Nat.reduceAdd, Nat.reduceMul, Option.isNone_some, Option.isNone_none, br_true, br_false, Bool.not_true, Bool.not_false, xI_eq, xB_eq, xS_eq, xP_eq, xL_eq, x0_eq, x2_eq, x3_eq, chk_eq, true_and, and_true, List.set_cons_zero, List.set_cons_succ, List.eraseIdx_cons_zero, List.eraseIdx_cons_succ]
  refine rLeaf_spec hs (by rw [bs_size, headL_length]; decide) fun w hs => ?_
  simp only [nn_some, add_mk, Nat.zero_add, Nat.add_zero, Nat.reduceAdd, Nat.reduceMul, Option.isNone_some, Option.isNone_none, br_true, br_false, Bool.not_true, Bool.not_false, xI_eq, xB_eq, xS_eq, xP_eq, xL_eq, x0_eq, x2_eq, x3_eq, chk_eq, true_and, and_true, List.set_cons_zero, List.set_cons_succ, List.eraseIdx_cons_zero, List.eraseIdx_cons_succ]
  have hgd3 : Good 3 0 (bs (headL next)) := ⟨by decide, by decide, by decide, by decide, by rw [bs_size, headL_length]; decide⟩
  have hlf : bs (leafL 3 0 (bs (headL next))) = leaf 3 0 (bs (headL next)) := by unfold leaf; rw [if_pos hgd3]
  rw [hlf, strEq_iff]
  have es : (some (if (D2.read (b : Int)).1 = leaf 3 0 (bs (headL next)) then next else h) : Option PHead).isSome = true := rfl
  rw [es]
  have eo : hdOf (some (if (D2.read (b : Int)).1 = leaf 3 0 (bs (headL next)) then next else h)) = (if (D2.read (b : Int)).1 = leaf 3 0 (bs (headL next)) then next else h) := rfl
  rw [eo] at hs
  simp only [nn_some, add_mk, Nat.zero_add, Nat.add_zero, Nat.reduceAdd, Nat.reduceMul, Option.isNone_some, Option.isNone_none, br_true, br_false, Bool.not_true, Bool.not_false, xI_eq, xB_eq, xS_eq, xP_eq, xL_eq, x0_eq, x2_eq, x3_eq, chk_eq, true_and, and_true, List.set_cons_zero, List.set_cons_succ, List.eraseIdx_cons_zero, List.eraseIdx_cons_succ]
  have fin : ∀ w, St W w (pt r3 (headCells (if (D2.read (b : Int)).1 = leaf 3 0 (bs (headL next)) then next else h)) :: disk d D2 :: pt r2 (headCells next) :: pt r1 (headCells h) :: L) → stamp_Greatest (some ⟨d, 0, none⟩) (xI .i64 fun n13 => K (.bool (decide (n13 ≤ 3)))) w := fun w hs => by
    refine Greatest_spec (k := 1) hs rfl c1 fun w hs => ?_
    simp only [nn_some, add_mk, Nat.zero_add, Nat.add_zero, Nat.reduceAdd, Nat.reduceMul, Option.isNone_some, Option.isNone_none, br_true, br_false, Bool.not_true, Bool.not_false, xI_eq, xB_eq, xS_eq, xP_eq, xL_eq, x0_eq, x2_eq, x3_eq, chk_eq, true_and, and_true, List.set_cons_zero, List.set_cons_succ, List.eraseIdx_cons_zero, List.eraseIdx_cons_succ]
    rw [c2, decide_eq_true c3]
    exact hK _ hs.drop.drop.drop.drop
  by_cases hw : (D2.read (b : Int)).1 = leaf 3 0 (bs (headL next))
  · rw [if_pos hw] at hs fin
    refine ldN_pt (k := 0) (xs := headCells next) hs rfl rfl (fun j v hj => by rw [Nat.zero_add]; exact hj) ?_
    refine ldN_pt (k := 2) (xs := headCells next) hs rfl rfl (fun j v hj => by rw [Nat.zero_add]; exact hj) ?_
    refine ⟨⟨rfl, rfl⟩, ?_⟩
    rw [eqCells_head, decide_eq_true (rfl : next = next), decide_eq_true hw]
    simp only [nn_some, add_mk, Nat.zero_add, Nat.add_zero, Nat.reduceAdd, Nat.reduceMul, Option.isNone_some, Option.isNone_none, br_true, br_false, Bool.not_true, Bool.not_false, xI_eq, xB_eq, xS_eq, xP_eq, xL_eq, x0_eq, x2_eq, x3_eq, chk_eq, true_and, and_true, List.set_cons_zero, List.set_cons_succ, List.eraseIdx_cons_zero, List.eraseIdx_cons_succ]
    rw [beq_self_eq_true, br_true]
    exact br_ne (fun _ => fin _ hs) (fun _ => fin _ hs)
  · rw [if_neg hw] at hs fin
    refine ldN_pt (k := 0) (xs := headCells h) hs rfl rfl (fun j v hj => by rw [Nat.zero_add]; exact hj) ?_
    refine ldN_pt (k := 2) (xs := headCells next) hs rfl rfl (fun j v hj => by rw [Nat.zero_add]; exact hj) ?_
    refine ⟨⟨rfl, rfl⟩, ?_⟩
    have hne : h ≠ next := fun hh => by rw [← hh] at ht; omega
    rw [eqCells_head, decide_eq_false hne, decide_eq_false hw]
    simp only [nn_some, add_mk, Nat.zero_add, Nat.add_zero, Nat.reduceAdd, Nat.reduceMul, Option.isNone_some, Option.isNone_none, br_true, br_false, Bool.not_true, Bool.not_false, xI_eq, xB_eq, xS_eq, xP_eq, xL_eq, x0_eq, x2_eq, x3_eq, chk_eq, true_and, and_true, List.set_cons_zero, List.set_cons_succ, List.eraseIdx_cons_zero, List.eraseIdx_cons_succ]
    rw [beq_self_eq_true, br_true]
    refine ldN_pt (k := 0) (xs := headCells h) hs rfl rfl (fun j v hj => by rw [Nat.zero_add]; exact hj) ?_
    refine ldN_pt (k := 3) (xs := headCells h) hs rfl rfl (fun j v hj => by rw [Nat.zero_add]; exact hj) ?_
    refine ⟨⟨rfl, rfl⟩, ?_⟩
    rw [eqCells_head, decide_eq_true (rfl : h = h)]
    simp only [nn_some, add_mk, Nat.zero_add, Nat.add_zero, Nat.reduceAdd, Nat.reduceMul, Option.isNone_some, Option.isNone_none, br_true, br_false, Bool.not_true, Bool.not_false, xI_eq, xB_eq, xS_eq, xP_eq, xL_eq, x0_eq, x2_eq, x3_eq, chk_eq, true_and, and_true, List.set_cons_zero, List.set_cons_succ, List.eraseIdx_cons_zero, List.eraseIdx_cons_succ]
    refine br_ne (fun _ => fin _ hs) (fun h0 => ?_)
    exact absurd (c4 h0) hw

theorem CCrash_spec {h : PHead} {size seq fail mask torn cut : Int} {K : VK} (hs : St W w L) (hsz : (Lit.int .i64 h.turn).wf = true) (hK : ∀ w', St W w' L → K (.bool true) w') : bondstorelaw08_CrownCrash (headCells h) size seq fail mask torn cut K w := by
  unfold bondstorelaw08_CrownCrash
  refine mk_of hs fun r1 w hs => ?_
  refine alive8_spec hs fun w hs => ?_
  simp only [nn_some, add_mk, Nat.zero_add, Nat.add_zero, Nat.reduceAdd, Nat.reduceMul, Option.isNone_some, Option.isNone_none, br_true, br_false, Bool.not_true, Bool.not_false, xI_eq, xB_eq, xS_eq, xP_eq, xL_eq, x0_eq, x2_eq, x3_eq, chk_eq, true_and, and_true, List.set_cons_zero, List.set_cons_succ, List.eraseIdx_cons_zero, List.eraseIdx_cons_succ]
  refine ld_pt (k := 0) hs rfl (v := .int .i64 h.turn) rfl ?_
  simp only [nn_some, add_mk, Nat.zero_add, Nat.add_zero, Nat.reduceAdd, Nat.reduceMul, Option.isNone_some, Option.isNone_none, br_true, br_false, Bool.not_true, Bool.not_false, xI_eq, xB_eq, xS_eq, xP_eq, xL_eq, x0_eq, x2_eq, x3_eq, chk_eq, true_and, and_true, List.set_cons_zero, List.set_cons_succ, List.eraseIdx_cons_zero, List.eraseIdx_cons_succ]
  refine ld_pt (k := 0) hs rfl (v := .int .i64 h.number) rfl ?_
  simp only [nn_some, add_mk, Nat.zero_add, Nat.add_zero, Nat.reduceAdd, Nat.reduceMul, Option.isNone_some, Option.isNone_none, br_true, br_false, Bool.not_true, Bool.not_false, xI_eq, xB_eq, xS_eq, xP_eq, xL_eq, x0_eq, x2_eq, x3_eq, chk_eq, true_and, and_true, List.set_cons_zero, List.set_cons_succ, List.eraseIdx_cons_zero, List.eraseIdx_cons_succ]
  refine mk_of hs fun r2 w hs => ?_
  refine ⟨by simp, stN_pt (k := 0) hs rfl (Nat.le_of_ble_eq_true rfl) (by simp [Value.oneCell']) fun w hs => ?_⟩
  rw [over_all (by simp)] at hs
  simp only [nn_some, add_mk, Nat.zero_add, Nat.add_zero, Nat.reduceAdd, Nat.reduceMul, Option.isNone_some, Option.isNone_none, br_true, br_false, Bool.not_true, Bool.not_false, xI_eq, xB_eq, xS_eq, xP_eq, xL_eq, x0_eq, x2_eq, x3_eq, chk_eq, true_and, and_true, List.set_cons_zero, List.set_cons_succ, List.eraseIdx_cons_zero, List.eraseIdx_cons_succ] at hs
  generalize hnx : (⟨IntKind.i64.wrap (h.turn + 1), h.number, size, seq⟩ : PHead) = next
  have hs : St W w (pt r2 (headCells next) :: pt r1 (headCells h) :: L) := by rw [← hnx]; exact hs
  refine ldN_pt (k := 1) (xs := headCells h) hs rfl rfl (fun j v hj => by rw [Nat.zero_add]; exact hj) ?_
  refine good8_spec hs fun w hs => ?_
  have stop : ∀ w, St W w (pt r2 (headCells next) :: pt r1 (headCells h) :: L) → bondstorelaw08_CrownCrash.j1 K r1 fail r2 mask torn cut true w := fun w hs => by
    unfold bondstorelaw08_CrownCrash.j1
    simp only [nn_some, add_mk, Nat.zero_add, Nat.add_zero, Nat.reduceAdd, Nat.reduceMul, Option.isNone_some, Option.isNone_none, br_true, br_false, Bool.not_true, Bool.not_false, xI_eq, xB_eq, xS_eq, xP_eq, xL_eq, x0_eq, x2_eq, x3_eq, chk_eq, true_and, and_true, List.set_cons_zero, List.set_cons_succ, List.eraseIdx_cons_zero, List.eraseIdx_cons_succ]
    exact hK _ hs.drop.drop
  by_cases hg : HGood h
  case neg =>
    rw [decide_eq_false hg]
    simp only [nn_some, add_mk, Nat.zero_add, Nat.add_zero, Nat.reduceAdd, Nat.reduceMul, Option.isNone_some, Option.isNone_none, br_true, br_false, Bool.not_true, Bool.not_false, xI_eq, xB_eq, xS_eq, xP_eq, xL_eq, x0_eq, x2_eq, x3_eq, chk_eq, true_and, and_true, List.set_cons_zero, List.set_cons_succ, List.eraseIdx_cons_zero, List.eraseIdx_cons_succ]
    exact stop w hs
  rw [decide_eq_true hg]
  simp only [nn_some, add_mk, Nat.zero_add, Nat.add_zero, Nat.reduceAdd, Nat.reduceMul, Option.isNone_some, Option.isNone_none, br_true, br_false, Bool.not_true, Bool.not_false, xI_eq, xB_eq, xS_eq, xP_eq, xL_eq, x0_eq, x2_eq, x3_eq, chk_eq, true_and, and_true, List.set_cons_zero, List.set_cons_succ, List.eraseIdx_cons_zero, List.eraseIdx_cons_succ]
  refine ldN_pt (k := 0) (xs := headCells next) hs rfl rfl (fun j v hj => by rw [Nat.zero_add]; exact hj) ?_
  refine good8_spec hs fun w hs => ?_
  by_cases hg2 : HGood next
  case neg =>
    rw [decide_eq_false hg2]
    simp only [nn_some, add_mk, Nat.zero_add, Nat.add_zero, Nat.reduceAdd, Nat.reduceMul, Option.isNone_some, Option.isNone_none, br_true, br_false, Bool.not_true, Bool.not_false, xI_eq, xB_eq, xS_eq, xP_eq, xL_eq, x0_eq, x2_eq, x3_eq, chk_eq, true_and, and_true, List.set_cons_zero, List.set_cons_succ, List.eraseIdx_cons_zero, List.eraseIdx_cons_succ]
    exact stop w hs
  rw [decide_eq_true hg2]
  simp only [nn_some, add_mk, Nat.zero_add, Nat.add_zero, Nat.reduceAdd, Nat.reduceMul, Option.isNone_some, Option.isNone_none, br_true, br_false, Bool.not_true, Bool.not_false, xI_eq, xB_eq, xS_eq, xP_eq, xL_eq, x0_eq, x2_eq, x3_eq, chk_eq, true_and, and_true, List.set_cons_zero, List.set_cons_succ, List.eraseIdx_cons_zero, List.eraseIdx_cons_succ]
  have ht : next.turn = h.turn + 1 := by rw [← hnx]; exact wrap_id (by have := hg.1; have := hg.2.1; omega)
  have hin := low_in h.turn
  have hin2 := low_in next.turn
  have hp1 := hg.1
  have hp2 := hg.2.1
  have l1 := low_nat' (n := h.turn) (by omega)
  have l2 := low_nat' (n := next.turn) (by omega)
  rw [Int.tmod_eq_emod_of_nonneg (by omega)] at l1 l2
  obtain ⟨a, ha⟩ := Int.eq_ofNat_of_zero_le (show 0 ≤ low h.turn by omega)
  obtain ⟨b, hb⟩ := Int.eq_ofNat_of_zero_le (show 0 ≤ low next.turn by omega)
  have hab : a ≠ b := by omega
  unfold bondstorelaw08_CrownCrash.j1
  refine br_dec (fun _ => hK _ hs.drop.drop) (fun _ => ?_)
  refine New_spec hs fun d w hs => ?_
  simp only [nn_some, add_mk, Nat.zero_add, Nat.add_zero, Nat.reduceAdd, Nat.reduceMul, Option.isNone_some, Option.isNone_none, br_true, br_false, Bool.not_true, Bool.not_false, xI_eq, xB_eq, xS_eq, xP_eq, xL_eq, x0_eq, x2_eq, x3_eq, chk_eq, true_and, and_true, List.set_cons_zero, List.set_cons_succ, List.eraseIdx_cons_zero, List.eraseIdx_cons_succ]
  have hcm := calm_new (n := 4) (by decide)
  have hz : ∀ j : Nat, j < 4 → ((Disk.new 4).read (j : Int)).1 = zeros 128 := fun j hj => new_read (n := 4) (by decide) hj
  have e4 : ((4 : Nat) : Int) = 4 := rfl
  rw [e4] at hcm
  generalize Disk.new 4 = D at *
  refine ld_pt (k := 2) hs rfl (v := .int .i64 h.turn) rfl ?_
  simp only [nn_some, add_mk, Nat.zero_add, Nat.add_zero, Nat.reduceAdd, Nat.reduceMul, Option.isNone_some, Option.isNone_none, br_true, br_false, Bool.not_true, Bool.not_false, xI_eq, xB_eq, xS_eq, xP_eq, xL_eq, x0_eq, x2_eq, x3_eq, chk_eq, true_and, and_true, List.set_cons_zero, List.set_cons_succ, List.eraseIdx_cons_zero, List.eraseIdx_cons_succ]
  refine br_dec (fun h1 => ?_) (fun h1 => ?_)
  · refine ld_pt (k := 2) hs rfl (v := .int .i64 h.turn) rfl ?_
    simp only [nn_some, add_mk, Nat.zero_add, Nat.add_zero, Nat.reduceAdd, Nat.reduceMul, Option.isNone_some, Option.isNone_none, br_true, br_false, Bool.not_true, Bool.not_false, xI_eq, xB_eq, xS_eq, xP_eq, xL_eq, x0_eq, x2_eq, x3_eq, chk_eq, true_and, and_true, List.set_cons_zero, List.set_cons_succ, List.eraseIdx_cons_zero, List.eraseIdx_cons_succ]
    have ew : IntKind.i64.wrap (h.turn - 1) = h.turn - 1 := wrap_id (by omega)
    rw [ew]
    have hgp : HGood ⟨h.turn - 1, 1, 0, 0⟩ := by
      show 1 ≤ h.turn - 1 ∧ h.turn - 1 ≤ 1152921504606846976 ∧ (1 : Int) ≤ 1 ∧ (1 : Int) ≤ 1152921504606846976 ∧ (0 : Int) ≤ 0 ∧ (0 : Int) ≤ 425984 ∧ (0 : Int) ≤ 0 ∧ (0 : Int) ≤ 1152921504606846976
      omega
    have l3 := low_nat' (n := h.turn - 1) (by omega)
    rw [Int.tmod_eq_emod_of_nonneg (by omega)] at l3
    obtain ⟨p1, p2, p3, p5⟩ := cput_calm (n := 1) (a := b) (h := ⟨h.turn - 1, 1, 0, 0⟩) hcm (by decide) hgp (by show (b : Int) = low (h.turn - 1); omega)
    refine cPut_spec (k := 0) (h := ⟨h.turn - 1, 1, 0, 0⟩) hs rfl hcm.ok (by have := hcm.later; omega) fun w hs => ?_
    simp only [nn_some, add_mk, Nat.zero_add, Nat.add_zero, Nat.reduceAdd, Nat.reduceMul, Option.isNone_some, Option.isNone_none, br_true, br_false, Bool.not_true, Bool.not_false, xI_eq, xB_eq, xS_eq, xP_eq, xL_eq, x0_eq, x2_eq, x3_eq, chk_eq, true_and, and_true, List.set_cons_zero, List.set_cons_succ, List.eraseIdx_cons_zero, List.eraseIdx_cons_succ] at hs ⊢
    exact CCrash_tail (prev := ⟨h.turn - 1, 1, 0, 0⟩) hs p1 hg hg2 ht ha.symm hb.symm hab (fun j hj _ hjb => by rw [p3 j hj hjb, hz j hj]) (.inr ⟨hgp, by show low (h.turn - 1) = low next.turn; omega, by show h.turn - 1 < h.turn; omega, p2⟩) hK
  · exact CCrash_tail (prev := h) hs hcm hg hg2 ht ha.symm hb.symm hab (fun j hj _ _ => hz j hj) (.inl (hz b (by omega))) hK

theorem CCrash_ok {a0 : List Value} {a1 a2 a3 a4 a5 a6 : Int} (l0 : a0.length = 4) (ty0 : Typed [.i .i64, .i .i64, .i .i64, .i .i64] a0 0) (_ : (Lit.int .i64 a1).wf = true) (_ : (Lit.int .i64 a2).wf = true) (_ : (Lit.int .i64 a3).wf = true) (_ : (Lit.int .u64 a4).wf = true) (_ : (Lit.int .i64 a5).wf = true) (_ : (Lit.int .i64 a6).wf = true) :
    bondstorelaw08_CrownCrash.u [.agg ⟨a0⟩, .int .i64 a1, .int .i64 a2, .int .i64 a3, .int .u64 a4, .int .i64 a5, .int .i64 a6] (fun v w' => v = .bool true ∧ Below W.heap.size W w') W := by
  obtain ⟨v0, g0, n0, rfl, w0⟩ := ty0 0 _ rfl
  obtain ⟨v1, g1, n1, rfl, _⟩ := ty0 1 _ rfl
  obtain ⟨v2, g2, n2, rfl, _⟩ := ty0 2 _ rfl
  obtain ⟨v3, g3, n3, rfl, _⟩ := ty0 3 _ rfl
  have e : a0 = headCells ⟨n0, n1, n2, n3⟩ := by
    apply List.ext_getElem?
    intro j
    match j with
    | 0 => exact g0
    | 1 => exact g1
    | 2 => exact g2
    | 3 => exact g3
    | j + 4 => rw [List.getElem?_eq_none (by omega), List.getElem?_eq_none (by simp [headCells])]
  subst e
  unfold bondstorelaw08_CrownCrash.u
  exact CCrash_spec (K := fun v w' => v = .bool true ∧ Below W.heap.size W w') (St.start W) w0 (fun w' h => ⟨rfl, h.below⟩)
end
end Go.Sep
