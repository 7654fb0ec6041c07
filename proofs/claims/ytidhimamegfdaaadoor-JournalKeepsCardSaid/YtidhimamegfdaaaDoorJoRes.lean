/- The law JournalRestarts. -/
import Derived.Test.YtidhimamegfdaaaDoorJoFly
import Derived.Test.YtidhimamegfdaaaDoorOpenCap
namespace Go.Sep
open Go.Den Go.RowKit Go.Prog Go.Plat
set_option linter.unusedSimpArgs false
set_option linter.unusedVariables false

theorem JG.mono {n : Nat} {D : Disk} {J : PJ} {q0 : Int} {recs : List (List UInt8)} {g g' : Nat} (h : JG n D J q0 recs g) (hg : g ≤ g') : JG n D J q0 recs g' :=
  ⟨h.ok, h.lat, h.len, h.jok, h.chain, h.seq, h.q0, h.low, h.stop, fun j hj => (h.ends j hj).mono hg⟩

/-- The ends are no greater than the greatest. -/
theorem JG.greatest {n : Nat} {D : Disk} {J : PJ} {q0 : Int} {recs : List (List UInt8)} {g : Nat} (h : JG n D J q0 recs g) (hg : g < 256) : ∃ x : Nat, grTo D n = x ∧ x ≤ g ∧ JG n D J q0 recs x := by
  have h1 := grTo_in D n
  have h2 := grTo_ends (D := D) hg n h.ends
  obtain ⟨x, hx⟩ := Int.eq_ofNat_of_zero_le h1.1
  refine ⟨x, hx, by omega, ⟨h.ok, h.lat, h.len, h.jok, h.chain, h.seq, h.q0, h.low, h.stop, fun j hj => ?_⟩⟩
  obtain ⟨e1, ⟨a, ha, e2⟩, b, hb, e3⟩ := h.ends j hj
  have hle := numOf_le (D := D) n j hj
  have e4 : hd8 (D.read (j : Int)).1 = bs (le .i64 8 ((a : Nat) : Int)) := bytes_ext (by rw [hd8_list, e2]; rfl)
  have e5 : tl8 (D.read (j : Int)).1 = bs (le .i64 8 ((b : Nat) : Int)) := bytes_ext (by rw [tl8_list e1, e3]; rfl)
  rw [e4, e5, numOf_small (by omega), numOf_small (by omega)] at hle
  exact ⟨e1, ⟨a, by omega, e2⟩, b, by omega, e3⟩

/-- No first sector's bytes bear a number above the last record's. -/
def Strong (D : Disk) (J : PJ) : Prop := ∀ j : Int, J.lo ≤ j → j < J.hi → ∀ m d, readV (D.read j).1.data.toList = some (m, 0, d) → seqOf d ≤ J.seq

theorem add_strong {n : Nat} {D : Disk} {J : PJ} {q0 : Int} {recs : List (List UInt8)} {g m : Nat} {s : ByteArray} (h : JG n D J q0 recs g) (hst : Strong D J) (h4096 : n ≤ 4096) (hm : g < m) (hm2 : m < 256) (hr : room J s.size) (hsq : J.seq < 1152921504606846976)
    (h0 : (lsync D J.at' J.hi m (bs (frameL (J.seq + 1) s))).2 = 0) : Strong (lsync D J.at' J.hi m (bs (frameL (J.seq + 1) s))).1 (J.more s) := by
  obtain ⟨j1, j2, j3, j4, j5⟩ := h.jok
  obtain ⟨r1, r2, r3⟩ := hr
  rw [Int.toNat_natCast] at r3
  have hlen := h.len
  have hfs := frame_size (J.seq + 1) s
  obtain ⟨a, ha⟩ := Int.eq_ofNat_of_zero_le (show 0 ≤ J.at' by omega)
  obtain ⟨t, ht⟩ := Int.eq_ofNat_of_zero_le (show 0 ≤ J.hi by omega)
  obtain ⟨c1, c2, c3, c4⟩ := ls_crash (n := n) (a := a) (t := t) (number := m) (mask := 0) (torn := -1) (cut := 0) (s := bs (frameL (J.seq + 1) s)) h.ok h.lat hlen h4096 (by omega) (by rw [hfs]; omega) (by omega)
  rw [hfs] at c1 c2
  rw [ha, ht] at h0 ⊢
  have hlat := ls_zero h0
  have hcc := fun j => crash_calm hlat 0 (-1) 0 j
  have hpr := part0_reads (seq := J.seq + 1) (s := s) ⟨by omega, by omega⟩ (by omega)
  intro j h1 h2 x d hv
  change J.lo ≤ j at h1
  change j < J.hi at h2
  show seqOf d ≤ J.seq + 1
  obtain ⟨k, rfl⟩ := Int.eq_ofNat_of_zero_le (show 0 ≤ j by omega)
  rw [← hcc] at hv
  by_cases hin : a ≤ k ∧ k < a + cnt (12 + s.size)
  · have := c2 h0 (k - a) (by omega)
    rw [show a + (k - a) = k from by omega] at this
    have hgd : Good m ((k - a : Nat) : Int) (part (bs (frameL (J.seq + 1) s)) (k - a)) := ⟨by omega, by omega, by omega, by omega, part_size _ _⟩
    rw [this, leaf_list hgd, readV_leaf hgd] at hv
    simp only [Option.some.injEq, Prod.mk.injEq] at hv
    obtain ⟨_, hi0, hd⟩ := hv
    have : k - a = 0 := by omega
    rw [this] at hd
    rw [← hd, hpr.1]
    exact Int.le_refl _
  · rcases c1 k (by omega) with hh | ⟨i, h4, h5, _⟩
    · rw [hh] at hv
      have := hst _ h1 h2 x d hv
      omega
    · omega

/-- All is kept elsewhere. -/
theorem JG.restart {n : Nat} {D : Disk} {J : PJ} {q0 : Int} {recs : List (List UInt8)} {g : Nat} (h : JG n D J q0 recs g) (hst : Strong D J) (hlh : J.lo < J.hi) : JG n D { J with at' := J.lo } J.seq [] g :=
  ⟨h.ok, h.lat, h.len, ⟨h.jok.lo, Int.le_refl _, by show J.lo ≤ J.hi; omega, h.jok.hi, h.jok.seq⟩, rfl, by show J.seq = J.seq + _; simp, h.jok.seq.1, h.low, nextF_low (fun m d hv => by
    have := hst J.lo (Int.le_refl _) hlh m d hv
    show seqOf d ≠ J.seq + 1
    omega), h.ends⟩

section
variable {W w : World} {L : List HP}

theorem texts_cut {b : Option Addr} {n c l : Nat} {ys : List ByteArray} (hr : Ro W b n 1 (ys.map .string)) (hn : ys.length = n) (hc : n ≤ c) (hl : l ≤ n) : Texts W L (slAt b c l 1) (n - l) (ys.drop l) := fun w' h i hi X hX => by
  rw [List.length_drop] at hi
  unfold slAt
  by_cases hcl : c = l
  · omega
  · rw [if_neg hcl]
    cases hb : b with
    | none => have := hr.2.1 hb; omega
    | some a =>
      refine ⟨a.add (l * 1), rfl, ⟨by omega, by omega⟩, ?_⟩
      rw [Int.toNat_natCast, add_add, Nat.mul_one, Nat.mul_one]
      refine ld_ro h hr hb (v := .string ys[l + i]) (by rw [List.getElem?_map]; simp [show l + i < ys.length by omega]) ?_
      simp only [nn_some, add_mk, Nat.zero_add, Nat.add_zero, Nat.reduceAdd, Nat.reduceMul, Option.isNone_some, Option.isNone_none, br_true, br_false, Bool.not_true, Bool.not_false, xI_eq, xB_eq, xS_eq, xP_eq, xL_eq, x0_eq, x2_eq, x3_eq, chk_eq, true_and, and_true, List.set_cons_zero, List.set_cons_succ, List.eraseIdx_cons_zero, List.eraseIdx_cons_succ]
      rw [List.getElem_drop] at hX
      exact hX

/-- Opened again at last. -/
theorem Res_end {b bb : Option Addr} {n c cc cut d r g : Nat} {D : Disk} {J : PJ} {ss : List ByteArray} {mask : Int} {K : VK} (h : St W w (own bb 0 cc 1 (([] : List (List UInt8)).map recV) :: pt r (jCells d J) :: disk d D :: L)) (hr : Ro W b n 1 (ss.map .string)) (hn : ss.length = n) (hmx : n ≤ 20) (hc : n ≤ c) (hcut : cut ≤ n)
    (hg : JG 80 D J cut (raws (ss.drop cut)) g) (hlo : J.lo = 0) (hhi : J.hi = 80) (hK : ∀ w', St W w' L → K (.bool true) w') : bondstorelaw06_JournalRestarts.j3 K (some ⟨d, 0, none⟩) mask cut b n c (some ⟨r, 0, none⟩) w := by
  have hseq := hg.seq
  rw [raws_len, List.length_drop] at hseq
  unfold bondstorelaw06_JournalRestarts.j3
  refine Disk_Crash_spec (k := 2) h rfl hg.ok fun w h => ?_
  simp only [nn_some, add_mk, Nat.zero_add, Nat.add_zero, Nat.reduceAdd, Nat.reduceMul, Option.isNone_some, Option.isNone_none, br_true, br_false, Bool.not_true, Bool.not_false, xI_eq, xB_eq, xS_eq, xP_eq, xL_eq, x0_eq, x2_eq, x3_eq, chk_eq, true_and, and_true, List.set_cons_zero, List.set_cons_succ, List.eraseIdx_cons_zero, List.eraseIdx_cons_succ] at h ⊢
  have hlat := hg.lat
  have hg2 : JG 80 (D.crash mask (-1) 0) J cut (raws (ss.drop cut)) g := hg.congr (crash_ok hg.ok mask (-1) 0) (by rw [crash_eq]) (by rw [crash_len]; exact hg.len) (fun i _ _ => by rw [crash_calm hlat])
  generalize D.crash mask (-1) 0 = D2 at *
  have hop := hg2.opened
  rw [hlo, hhi] at hop
  have hlen2 := hg2.len
  refine Open_spec (k := 2) h rfl hg2.ok ⟨by decide, by decide, by rw [hlen2]; decide⟩ ⟨by omega, by omega⟩ fun r5 b7 c7 w _ h => ?_
  rw [hop] at h ⊢
  dsimp only at h ⊢
  rw [raws_recs, raws_len] at h
  rw [raws_len]
  simp only [nn_some, add_mk, Nat.zero_add, Nat.add_zero, Nat.reduceAdd, Nat.reduceMul, Option.isNone_some, Option.isNone_none, br_true, br_false, Bool.not_true, Bool.not_false, xI_eq, xB_eq, xS_eq, xP_eq, xL_eq, x0_eq, x2_eq, x3_eq, chk_eq, true_and, and_true, List.set_cons_zero, List.set_cons_succ, List.eraseIdx_cons_zero, List.eraseIdx_cons_succ]
  rw [beq_self_eq_true]
  simp only [nn_some, add_mk, Nat.zero_add, Nat.add_zero, Nat.reduceAdd, Nat.reduceMul, Option.isNone_some, Option.isNone_none, br_true, br_false, Bool.not_true, Bool.not_false, xI_eq, xB_eq, xS_eq, xP_eq, xL_eq, x0_eq, x2_eq, x3_eq, chk_eq, true_and, and_true, List.set_cons_zero, List.set_cons_succ, List.eraseIdx_cons_zero, List.eraseIdx_cons_succ]
  unfold slSl
  refine ⟨⟨by omega, by omega⟩, ?_⟩
  rw [Int.toNat_natCast]
  refine Same_spec (ys := ss.drop cut) (zs := ss.drop cut) h rfl (by rw [List.length_drop, hn]) (by unfold maxLen; rw [List.length_drop]; omega) (texts_own (k := 0) rfl rfl) (texts_cut hr hn hc hcut) fun w h => ?_
  rw [decide_eq_true rfl]
  simp only [nn_some, add_mk, Nat.zero_add, Nat.add_zero, Nat.reduceAdd, Nat.reduceMul, Option.isNone_some, Option.isNone_none, br_true, br_false, Bool.not_true, Bool.not_false, xI_eq, xB_eq, xS_eq, xP_eq, xL_eq, x0_eq, x2_eq, x3_eq, chk_eq, true_and, and_true, List.set_cons_zero, List.set_cons_succ, List.eraseIdx_cons_zero, List.eraseIdx_cons_succ]
  refine Seq_spec (k := 1) h rfl ?_
  simp only [nn_some, add_mk, Nat.zero_add, Nat.add_zero, Nat.reduceAdd, Nat.reduceMul, Option.isNone_some, Option.isNone_none, br_true, br_false, Bool.not_true, Bool.not_false, xI_eq, xB_eq, xS_eq, xP_eq, xL_eq, x0_eq, x2_eq, x3_eq, chk_eq, true_and, and_true, List.set_cons_zero, List.set_cons_succ, List.eraseIdx_cons_zero, List.eraseIdx_cons_succ]
  have e1 : (J.seq == (n : Int)) = true := by rw [hseq, beq_iff_eq]; omega
  rw [e1]
  simp only [nn_some, add_mk, Nat.zero_add, Nat.add_zero, Nat.reduceAdd, Nat.reduceMul, Option.isNone_some, Option.isNone_none, br_true, br_false, Bool.not_true, Bool.not_false, xI_eq, xB_eq, xS_eq, xP_eq, xL_eq, x0_eq, x2_eq, x3_eq, chk_eq, true_and, and_true, List.set_cons_zero, List.set_cons_succ, List.eraseIdx_cons_zero, List.eraseIdx_cons_succ]
  refine Seq_spec (k := 3) h rfl ?_
  simp only [nn_some, add_mk, Nat.zero_add, Nat.add_zero, Nat.reduceAdd, Nat.reduceMul, Option.isNone_some, Option.isNone_none, br_true, br_false, Bool.not_true, Bool.not_false, xI_eq, xB_eq, xS_eq, xP_eq, xL_eq, x0_eq, x2_eq, x3_eq, chk_eq, true_and, and_true, List.set_cons_zero, List.set_cons_succ, List.eraseIdx_cons_zero, List.eraseIdx_cons_succ]
  rw [e1]
  exact hK _ h.drop.drop.drop.drop.drop

theorem Res6_spec {b : Option Addr} {n c : Nat} {ss : List ByteArray} {cut mask : Int} {K : VK} (h : St W w L) (hr : Ro W b n 1 (ss.map .string)) (hn : ss.length = n) (hmx : n ≤ maxLen) (hc : n ≤ c) (hsz : ∀ s ∈ ss, s.size ≤ reachBytes) (hK : ∀ w', St W w' L → K (.bool true) w') :
    bondstorelaw06_JournalRestarts b n c cut mask K w := by
  unfold maxLen at hmx
  unfold bondstorelaw06_JournalRestarts
  refine alive6_spec h fun w h => ?_
  simp only [nn_some, add_mk, Nat.zero_add, Nat.add_zero, Nat.reduceAdd, Nat.reduceMul, Option.isNone_some, Option.isNone_none, br_true, br_false, Bool.not_true, Bool.not_false, xI_eq, xB_eq, xS_eq, xP_eq, xL_eq, x0_eq, x2_eq, x3_eq, chk_eq, true_and, and_true, List.set_cons_zero, List.set_cons_succ, List.eraseIdx_cons_zero, List.eraseIdx_cons_succ]
  refine ⟨fun us w' => ∃ (j : Nat) (x : Int), us = [.bool false, .int .i64 x, .slice b n c, .int .i64 n, .int .i64 j] ∧ j ≤ n ∧ St W w' L,
    fun us _ => match us with | [_, _, _, _, .int _ j] => n - j.toNat | _ => 0, ⟨0, 0, rfl, Nat.zero_le _, h⟩, ?_⟩
  rintro b2 n3 sb2 sn2 sc2 n4 n5 w2 ⟨j, x, he, hj, h⟩
  cases he
  have go : ∀ f, (f = false → n ≤ 20 ∧ 0 ≤ cut ∧ cut ≤ n) → bondstorelaw06_JournalRestarts.j1 K false b n c cut mask f w2 := fun f hf => by
    unfold bondstorelaw06_JournalRestarts.j1
    refine br_of (fun _ => hK _ h) (fun hff => ?_)
    obtain ⟨h20, hc0, hcn⟩ := hf hff
    obtain ⟨q, rfl⟩ := Int.eq_ofNat_of_zero_le hc0
    refine New_spec h fun d w h => ?_
    simp only [nn_some, add_mk, Nat.zero_add, Nat.add_zero, Nat.reduceAdd, Nat.reduceMul, Option.isNone_some, Option.isNone_none, br_true, br_false, Bool.not_true, Bool.not_false, xI_eq, xB_eq, xS_eq, xP_eq, xL_eq, x0_eq, x2_eq, x3_eq, chk_eq, true_and, and_true, List.set_cons_zero, List.set_cons_succ, List.eraseIdx_cons_zero, List.eraseIdx_cons_succ]
    have hg0 := JG_new (n := 80) (by decide) (lo := 0) (hi := 80) (by decide) (by decide) (by decide) 0 (by decide)
    have hst0 : Strong (Disk.new 80) ⟨0, 80, 0, 0, false⟩ := fun i h1 h2 m dd hv => by
      have := new_zeros (n := 80) (by decide) h1 h2
      rw [show (((80 : Nat) : Int)) = 80 from rfl] at this
      rw [this, readV_zeros] at hv
      cases hv
    refine Open_new (n := 80) (k := 0) h rfl (by decide) (by decide) fun r bb cc w h => ?_
    simp only [nn_some, add_mk, Nat.zero_add, Nat.add_zero, Nat.reduceAdd, Nat.reduceMul, Option.isNone_some, Option.isNone_none, br_true, br_false, Bool.not_true, Bool.not_false, xI_eq, xB_eq, xS_eq, xP_eq, xL_eq, x0_eq, x2_eq, x3_eq, chk_eq, true_and, and_true, List.set_cons_zero, List.set_cons_succ, List.eraseIdx_cons_zero, List.eraseIdx_cons_succ]
    -- behind how many records, and which ones
    refine ⟨fun us w' => ∃ (j : Nat) (D : Disk) (J : PJ), us = [.bool false, .pointer (some ⟨d, 0, none⟩), .pointer (some ⟨r, 0, none⟩), .slice b n c, .int .i64 n, .int .i64 j] ∧ j ≤ n ∧ JG 80 D J ((if j ≤ q then 0 else q : Nat) : Int) (raws ((ss.take j).drop (if j ≤ q then 0 else q))) j ∧ Strong D J ∧ J.sick = false ∧ J.lo = 0 ∧ J.hi = 80 ∧ J.seq = j ∧
        St W w' (own bb 0 cc 1 (([] : List (List UInt8)).map recV) :: pt r (jCells d J) :: disk d D :: L),
      fun us _ => match us with | [_, _, _, _, _, .int _ j] => n - j.toNat | _ => 0, ⟨0, Disk.new 80, _, rfl, Nat.zero_le _, by rw [if_pos (Nat.zero_le _)]; exact hg0, hst0, rfl, rfl, rfl, rfl, h⟩, ?_⟩
    rintro b4 p3 p4 sb4 sn4 sc4 n7 n8 w2 ⟨j, D, J, he, hj, hg, hst, hsk, hlo, hhi, hsq, h⟩
    cases he
    refine br_dec (fun hlt => ?_) (fun hge => ?_)
    · have hlt2 : j < ss.length := by omega
      have e5 : IntKind.i64.wrap ((j : Int) + 1) = ((j + 1 : Nat) : Int) := by rw [wrap_id (by omega)]; omega
      refine str_ro h hr hlt2 (by omega) ?_
      have hs := hsz ss[j] (List.getElem_mem hlt2)
      have htk : ss.take (j + 1) = ss.take j ++ [ss[j]] := List.take_succ_eq_append_getElem hlt2
      have htl : (ss.take j).length = j := by rw [List.length_take]; omega
      generalize hsj : ss[j] = s at *
      generalize hI : (fun (us : List Value) (w' : World) => ∃ (j : Nat) (D : Disk) (J : PJ), us = [.bool false, .pointer (some ⟨d, 0, none⟩), .pointer (some ⟨r, 0, none⟩), .slice b n c, .int .i64 n, .int .i64 j] ∧ j ≤ n ∧ JG 80 D J ((if j ≤ q then 0 else q : Nat) : Int) (raws ((ss.take j).drop (if j ≤ q then 0 else q))) j ∧ Strong D J ∧ J.sick = false ∧ J.lo = 0 ∧ J.hi = 80 ∧ J.seq = j ∧
        St W w' (own bb 0 cc 1 (([] : List (List UInt8)).map recV) :: pt r (jCells d J) :: disk d D :: L)) = I
      generalize hμ : (fun (us : List Value) (_ : World) => match us with | [_, _, _, _, _, .int _ j] => n - j.toNat | _ => 0) = μ
      have step : ∀ (J : PJ) w, JG 80 D J ((if j + 1 ≤ q then 0 else q : Nat) : Int) (raws ((ss.take j).drop (if j + 1 ≤ q then 0 else q))) j → Strong D J → J.sick = false → J.lo = 0 → J.hi = 80 → J.seq = j → St W w (own bb 0 cc 1 (([] : List (List UInt8)).map recV) :: pt r (jCells d J) :: disk d D :: L) →
          bondstorelaw06_JournalRestarts.j2 K (some ⟨d, 0, none⟩) (some ⟨r, 0, none⟩) s I false b n c n j μ w2 w := fun J w hg hst hsk hlo hhi hsq h => by
        unfold bondstorelaw06_JournalRestarts.j2
        obtain ⟨x, hx, hxj, hgx⟩ := hg.greatest (by omega)
        refine Greatest_spec (k := 2) h rfl hg.ok fun w h => ?_
        simp only [nn_some, add_mk, Nat.zero_add, Nat.add_zero, Nat.reduceAdd, Nat.reduceMul, Option.isNone_some, Option.isNone_none, br_true, br_false, Bool.not_true, Bool.not_false, xI_eq, xB_eq, xS_eq, xP_eq, xL_eq, x0_eq, x2_eq, x3_eq, chk_eq, true_and, and_true, List.set_cons_zero, List.set_cons_succ, List.eraseIdx_cons_zero, List.eraseIdx_cons_succ]
        rw [hg.len, hx]
        have ex : IntKind.i64.wrap ((x : Int) + 1) = ((x + 1 : Nat) : Int) := by rw [wrap_id (by omega)]; omega
        rw [ex, e5]
        refine jAdd_spec (k := 1) (k2 := 2) h rfl rfl (by decide) hg.jok hg.ok (by rw [hg.lat]; decide) hs fun w h => ?_
        by_cases hrm : room J s.size
        · obtain ⟨a1, a2, a3⟩ := hgx.add hsk (by decide) (m := x + 1) (by omega) (by omega) hrm (by omega)
          have hs2 := add_strong hgx hst (by decide) (m := x + 1) (by omega) (by omega) hrm (by omega)
          rw [a1] at h ⊢
          unfold addR at h ⊢
          rcases a3 with ⟨z, hg2⟩ | z
          · rw [if_neg (fun hh => hh z)] at h ⊢
            simp only [nn_some, add_mk, Nat.zero_add, Nat.add_zero, Nat.reduceAdd, Nat.reduceMul, Option.isNone_some, Option.isNone_none, br_true, br_false, Bool.not_true, Bool.not_false, xI_eq, xB_eq, xS_eq, xP_eq, xL_eq, x0_eq, x2_eq, x3_eq, chk_eq, true_and, and_true, List.set_cons_zero, List.set_cons_succ, List.eraseIdx_cons_zero, List.eraseIdx_cons_succ] at h ⊢
            rw [bne_self_eq_false]
            simp only [nn_some, add_mk, Nat.zero_add, Nat.add_zero, Nat.reduceAdd, Nat.reduceMul, Option.isNone_some, Option.isNone_none, br_true, br_false, Bool.not_true, Bool.not_false, xI_eq, xB_eq, xS_eq, xP_eq, xL_eq, x0_eq, x2_eq, x3_eq, chk_eq, true_and, and_true, List.set_cons_zero, List.set_cons_succ, List.eraseIdx_cons_zero, List.eraseIdx_cons_succ]
            rw [← hI, ← hμ]
            refine ⟨⟨j + 1, _, J.more s, rfl, by omega, ?_, hs2 z, hsk, hlo, hhi, by show J.seq + 1 = _; omega, h⟩, by dsimp only; omega⟩
            rw [htk, List.drop_append_of_le_length (by rw [htl]; split <;> omega), raws_snoc]
            exact hg2.mono (by omega)
          · rw [if_pos (by rw [z]; decide), z] at h ⊢
            simp only [nn_some, add_mk, Nat.zero_add, Nat.add_zero, Nat.reduceAdd, Nat.reduceMul, Option.isNone_some, Option.isNone_none, br_true, br_false, Bool.not_true, Bool.not_false, xI_eq, xB_eq, xS_eq, xP_eq, xL_eq, x0_eq, x2_eq, x3_eq, chk_eq, true_and, and_true, List.set_cons_zero, List.set_cons_succ, List.eraseIdx_cons_zero, List.eraseIdx_cons_succ] at h ⊢
            have e8 : ((8 : Int) != 0) = true := rfl
            rw [e8]
            simp only [nn_some, add_mk, Nat.zero_add, Nat.add_zero, Nat.reduceAdd, Nat.reduceMul, Option.isNone_some, Option.isNone_none, br_true, br_false, Bool.not_true, Bool.not_false, xI_eq, xB_eq, xS_eq, xP_eq, xL_eq, x0_eq, x2_eq, x3_eq, chk_eq, true_and, and_true, List.set_cons_zero, List.set_cons_succ, List.eraseIdx_cons_zero, List.eraseIdx_cons_succ]
            exact hK _ h.drop.drop.drop
        · rw [add_full hsk (by omega) hrm] at h ⊢
          simp only [nn_some, add_mk, Nat.zero_add, Nat.add_zero, Nat.reduceAdd, Nat.reduceMul, Option.isNone_some, Option.isNone_none, br_true, br_false, Bool.not_true, Bool.not_false, xI_eq, xB_eq, xS_eq, xP_eq, xL_eq, x0_eq, x2_eq, x3_eq, chk_eq, true_and, and_true, List.set_cons_zero, List.set_cons_succ, List.eraseIdx_cons_zero, List.eraseIdx_cons_succ] at h ⊢
          have e8 : ((6 : Int) != 0) = true := rfl
          rw [e8]
          simp only [nn_some, add_mk, Nat.zero_add, Nat.add_zero, Nat.reduceAdd, Nat.reduceMul, Option.isNone_some, Option.isNone_none, br_true, br_false, Bool.not_true, Bool.not_false, xI_eq, xB_eq, xS_eq, xP_eq, xL_eq, x0_eq, x2_eq, x3_eq, chk_eq, true_and, and_true, List.set_cons_zero, List.set_cons_succ, List.eraseIdx_cons_zero, List.eraseIdx_cons_succ]
          exact hK _ h.drop.drop.drop
      refine br_eq (fun hjq => ?_) (fun hjq => ?_)
      · have hjq2 : j = q := by omega
        refine Restart_spec (k := 1) h rfl fun w h => ?_
        simp only [nn_some, add_mk, Nat.zero_add, Nat.add_zero, Nat.reduceAdd, Nat.reduceMul, Option.isNone_some, Option.isNone_none, br_true, br_false, Bool.not_true, Bool.not_false, xI_eq, xB_eq, xS_eq, xP_eq, xL_eq, x0_eq, x2_eq, x3_eq, chk_eq, true_and, and_true, List.set_cons_zero, List.set_cons_succ, List.eraseIdx_cons_zero, List.eraseIdx_cons_succ] at h ⊢
        have hg3 := hg.restart hst (by omega)
        rw [hsq] at hg3
        refine step { J with at' := J.lo } w ?_ hst hsk hlo hhi hsq h
        rw [if_neg (by omega), ← hjq2, List.drop_of_length_le (by omega), hsq]
        exact hg3
      · refine step J w2 ?_ hst hsk hlo hhi hsq h
        by_cases hle : j ≤ q
        · rw [if_pos hle] at hg
          rw [if_pos (by omega)]
          exact hg
        · rw [if_neg hle] at hg
          rw [if_neg (by omega)]
          exact hg
    · have hjn : j = n := by omega
      subst hjn
      rw [List.take_of_length_le (by omega)] at hg
      refine br_eq (fun hjq => ?_) (fun hjq => ?_)
      · have hjq2 : j = q := by omega
        refine Restart_spec (k := 1) h rfl fun w h => ?_
        simp only [nn_some, add_mk, Nat.zero_add, Nat.add_zero, Nat.reduceAdd, Nat.reduceMul, Option.isNone_some, Option.isNone_none, br_true, br_false, Bool.not_true, Bool.not_false, xI_eq, xB_eq, xS_eq, xP_eq, xL_eq, x0_eq, x2_eq, x3_eq, chk_eq, true_and, and_true, List.set_cons_zero, List.set_cons_succ, List.eraseIdx_cons_zero, List.eraseIdx_cons_succ] at h ⊢
        have hg3 := hg.restart hst (by omega)
        rw [hsq] at hg3
        refine Res_end (g := j) h hr hn h20 hc (by omega) (J := { J with at' := J.lo }) ?_ hlo hhi hK
        rw [List.drop_of_length_le (by omega), ← hjq2, hsq]
        exact hg3
      · rw [if_neg (by omega)] at hg
        exact Res_end h hr hn h20 hc (by omega) hg hlo hhi hK
  refine br_dec (fun hlt => ?_) (fun hge => ?_)
  · have hlt2 : j < ss.length := by omega
    have e5 : IntKind.i64.wrap ((j : Int) + 1) = ((j + 1 : Nat) : Int) := by rw [wrap_id (by omega)]; omega
    refine str_ro h hr hlt2 (by omega) ?_
    rw [e5]
    exact ⟨⟨j + 1, _, rfl, by omega, h⟩, by dsimp only; omega⟩
  · refine br_dec (fun h1 => go _ (fun hf => by cases hf)) (fun h1 => ?_)
    refine br_dec (fun h1 => go _ (fun hf => by cases hf)) (fun h2 => ?_)
    refine br_dec (fun h1 => go _ (fun hf => by cases hf)) (fun h3 => ?_)
    exact go _ (fun hf => ⟨by omega, by omega, by have := of_decide_eq_false hf; omega⟩)

theorem Res6_ok {a0 : Option Addr} {n0 c0 : Nat} {x0 : List Value} {a1 a2 : Int} (ro0 : Ro W a0 n0 1 x0) (el0 : Elems [.s] n0 x0) (mx0 : n0 ≤ maxLen) (cp0 : n0 ≤ c0) (_ : (Lit.int .i64 a1).wf = true) (_ : (Lit.int .u64 a2).wf = true) :
    bondstorelaw06_JournalRestarts.u [.slice a0 n0 c0, .int .i64 a1, .int .u64 a2] (fun v w' => v = .bool true ∧ Below W.heap.size W w') W := by
  obtain ⟨ss, h1, h2, h3⟩ := elems_str el0 ro0.1
  subst h2
  unfold bondstorelaw06_JournalRestarts.u
  exact Res6_spec (K := fun v w' => v = .bool true ∧ Below W.heap.size W w') (St.start W) ro0 h1 mx0 cp0 h3 (fun w' h => ⟨rfl, h.below⟩)
end
end Go.Sep
