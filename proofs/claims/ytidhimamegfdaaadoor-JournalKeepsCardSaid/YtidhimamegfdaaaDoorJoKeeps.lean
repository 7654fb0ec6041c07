/- The law JournalKeeps. -/
import Derived.Test.YtidhimamegfdaaaDoorJoKe
namespace Go.Sep
open Go.Den Go.RowKit Go.Prog Go.Plat
set_option linter.unusedSimpArgs false
set_option linter.unusedVariables false

theorem ls_few {D : Disk} {at' to number : Int} {s : ByteArray} (h : D.Ok) (hl : D.later.length + cnt s.size < 1099511627776) : (lsync D at' to number s).1.later.length ≤ D.later.length + cnt s.size := by
  have hL : (lay D at' to number s).1.later.length ≤ D.later.length + cnt s.size := by
    unfold lay
    split
    · exact Nat.le_add_right _ _
    · split
      · exact Nat.le_add_right _ _
      · exact (layF_ok _ 0 h hl).2.2
  unfold lsync
  split
  · exact hL
  · exact Nat.le_trans Dk.sync_len.2 hL

theorem add_sick {D : Disk} {J : PJ} {number : Int} {s : ByteArray} (h : J.sick = true) : addJ D J number s = (D, J, 9) := by
  unfold addJ; rw [if_pos h]

def IdleS (D : Disk) (J : PJ) (ws : List ByteArray) (i : Nat) : Prop := J.sick = false ∧ JG 40 D J 0 (raws ws) i ∧ J.lo = 0 ∧ J.hi = 40

structure FlyS (D : Disk) (J : PJ) (ws : List ByteArray) (t : ByteArray) (i : Nat) (D0 : Disk) (J0 : PJ) (m g : Nat) : Prop where
  good : JG 40 D0 J0 0 (raws ws) g
  well : J0.sick = false
  lo : J0.lo = 0
  hi : J0.hi = 40
  gm : g < m
  mi : m ≤ i
  rm : room J0 t.size
  ok : D.Ok
  safe : D.safe = (lsync D0 J0.at' J0.hi m (bs (frameL (J0.seq + 1) t))).1.safe
  later : D.later = (lsync D0 J0.at' J0.hi m (bs (frameL (J0.seq + 1) t))).1.later
  j : J = { J0 with sick := true }

/-- Nothing pends; or one record flies. -/
def KS (D : Disk) (J : PJ) (ws : List ByteArray) (t : ByteArray) (may : Bool) (i : Nat) : Prop :=
  (may = false ∧ IdleS D J ws i) ∨ (may = true ∧ ∃ D0 J0 m g, FlyS D J ws t i D0 J0 m g)

theorem JG.small {D : Disk} {J : PJ} {ws : List ByteArray} {g : Nat} (h : JG 40 D J 0 (raws ws) g) : ws.length ≤ 40 ∧ J.seq = ws.length ∧ J.seq < 1152921504606846976 := by
  have h1 := chain_le _ h.chain
  have h2 := h.jok.at2
  have h3 := h.jok.hi
  have h4 := h.jok.lo
  have h5 := h.len
  have h6 := h.seq
  rw [raws_len] at h1 h6
  omega

/-- What holds in any state. -/
theorem KS.all {D : Disk} {J : PJ} {ws : List ByteArray} {t : ByteArray} {may : Bool} {i : Nat} (h : KS D J ws t may i) (hi : i < 256) : D.Ok ∧ J.Ok D ∧ D.later.length < 1000 ∧ D.safe.length = 40 ∧ J.seq = ws.length ∧ ws.length ≤ 40 ∧ J.sick = may := by
  rcases h with ⟨rfl, h1, h2, h3, h4⟩ | ⟨rfl, D0, J0, m, g, h⟩
  · have := h2.small
    exact ⟨h2.ok, h2.jok, by rw [h2.lat]; decide, h2.len, this.2.1, this.1, h1⟩
  · have hs := h.good.small
    have hgm := h.gm
    have hmi := h.mi
    obtain ⟨f1, f2, f3, f4⟩ := fly h.good (by decide) h.gm (by omega) h.rm hs.2.2 0 0 0
    have hlen : D.safe.length = 40 := by
      rw [h.safe]
      by_cases hw : ∀ i : Nat, i < cnt (12 + t.size) → (((lsync D0 J0.at' J0.hi m (bs (frameL (J0.seq + 1) t))).1.crash 0 0 0).read (J0.at' + i)).1 = leaf m i (part (bs (frameL (J0.seq + 1) t)) i)
      · rw [← crash_len _ 0 0 0]; exact (f3 hw).len
      · rw [← crash_len _ 0 0 0]; exact (f4 hw).len
    have hcn : cnt (12 + t.size) ≤ 400 := by have := h.rm.2.1; unfold cnt; split <;> omega
    have hfew := ls_few (at' := J0.at') (to := J0.hi) (number := m) (s := bs (frameL (J0.seq + 1) t)) h.good.ok (by rw [h.good.lat, frame_size, List.length_nil]; omega)
    rw [h.good.lat, frame_size, List.length_nil, ← h.later] at hfew
    have j1 := h.good.jok
    have j2 := h.hi
    have hj := h.j
    subst hj
    refine ⟨h.ok, ⟨j1.lo, j1.at1, j1.at2, by rw [hlen]; show J0.hi ≤ _; omega, j1.seq⟩, by omega, hlen, hs.2.1, hs.1, rfl⟩

theorem KS.mono {D : Disk} {J : PJ} {ws : List ByteArray} {t : ByteArray} {may : Bool} {i i' : Nat} (h : KS D J ws t may i) (hi : i ≤ i') : KS D J ws t may i' := by
  rcases h with ⟨rfl, h1, h2, h3, h4⟩ | ⟨rfl, D0, J0, m, g, h⟩
  · exact .inl ⟨rfl, h1, h2.mono hi, h3, h4⟩
  · exact .inr ⟨rfl, D0, J0, m, g, ⟨h.good, h.well, h.lo, h.hi, h.gm, Nat.le_trans h.mi hi, h.rm, h.ok, h.safe, h.later, h.j⟩⟩

theorem KS.armed {D : Disk} {J : PJ} {ws : List ByteArray} {t : ByteArray} {may : Bool} {i : Nat} (h : KS D J ws t may i) (n : Int) : KS (D.armed n) J ws t may i := by
  rcases h with ⟨rfl, h1, h2, h3, h4⟩ | ⟨rfl, D0, J0, m, g, h⟩
  · exact .inl ⟨rfl, h1, h2.congr (armed_ok h2.ok n) h2.lat h2.len (fun _ _ _ => rfl), h3, h4⟩
  · exact .inr ⟨rfl, D0, J0, m, g, ⟨h.good, h.well, h.lo, h.hi, h.gm, h.mi, h.rm, armed_ok h.ok n, h.safe, h.later, h.j⟩⟩

/-- The power goes. -/
theorem KS.crash {D : Disk} {J : PJ} {ws : List ByteArray} {t : ByteArray} {may : Bool} {i : Nat} (h : KS D J ws t may i) (hi : i < 256) (mask torn cut : Int) :
    ∃ J' gs, (gs = ws ∨ (may = true ∧ gs = ws ++ [t])) ∧ IdleS (D.crash mask torn cut) J' gs i := by
  have hall := h.all hi
  rcases h with ⟨rfl, h1, h2, h3, h4⟩ | ⟨rfl, D0, J0, m, g, h⟩
  · have hlat := h2.lat
    exact ⟨J, ws, .inl rfl, h1, h2.congr (crash_ok h2.ok mask torn cut) (by rw [crash_eq]) (by rw [crash_len]; exact h2.len) (fun j _ _ => by rw [crash_calm hlat]), h3, h4⟩
  · have hs := h.good.small
    have hgm := h.gm
    have hmi := h.mi
    obtain ⟨f1, f2, f3, f4⟩ := fly h.good (by decide) h.gm (by omega) h.rm hs.2.2 mask torn cut
    have hrd : ∀ j : Int, ((D.crash mask torn cut).read j).1 = (((lsync D0 J0.at' J0.hi m (bs (frameL (J0.seq + 1) t))).1.crash mask torn cut).read j).1 := fun j => by
      rw [crash_eq, crash_eq, h.safe, h.later]; rfl
    have hok := crash_ok h.ok mask torn cut
    by_cases hw : ∀ i : Nat, i < cnt (12 + t.size) → (((lsync D0 J0.at' J0.hi m (bs (frameL (J0.seq + 1) t))).1.crash mask torn cut).read (J0.at' + i)).1 = leaf m i (part (bs (frameL (J0.seq + 1) t)) i)
    · refine ⟨J0.more t, ws ++ [t], .inr ⟨rfl, rfl⟩, h.well, ?_, h.lo, h.hi⟩
      rw [raws_snoc]
      exact ((f3 hw).mono hmi).congr hok (by rw [crash_eq]) (by rw [crash_len]; exact hall.2.2.2.1) (fun j _ _ => hrd j)
    · refine ⟨J0, ws, .inl rfl, h.well, ?_, h.lo, h.hi⟩
      exact ((f4 hw).mono hmi).congr hok (by rw [crash_eq]) (by rw [crash_len]; exact hall.2.2.2.1) (fun j _ _ => hrd j)

/-- One more record is asked for. -/
theorem KS.add {D : Disk} {J : PJ} {ws : List ByteArray} {t s : ByteArray} {may : Bool} {i : Nat} (h : KS D J ws t may i) (hi : i < 255) (hs : s.size ≤ 4096) :
    ∃ D' J' e, addJ D J (IntKind.i64.wrap (grTo D 40 + 1)) s = (D', J', e) ∧
      ((e = 0 ∧ may = false ∧ J'.at' = J.at' + (cnt (12 + s.size) : Int) ∧ KS D' J' (ws ++ [s]) t false (i + 1)) ∨
       (e = 8 ∧ may = false ∧ KS D' J' ws s true (i + 1)) ∨
       (e = 9 ∧ may = true ∧ D' = D ∧ J' = J) ∨ (e = 6 ∧ may = false ∧ ¬ room J s.size ∧ D' = D ∧ J' = J)) := by
  have hgr := grTo_in D 40
  have ew : IntKind.i64.wrap (grTo D 40 + 1) = grTo D 40 + 1 := wrap_id (by omega)
  have hall := h.all (by omega)
  rw [ew]
  cases may with
  | true => exact ⟨D, J, 9, add_sick hall.2.2.2.2.2.2, .inr (.inr (.inl ⟨rfl, rfl, rfl, rfl⟩))⟩
  | false =>
    rcases h with ⟨_, h1, h2, h3, h4⟩ | ⟨hh, _⟩
    · obtain ⟨x, hx, hxi, hgx⟩ := h2.greatest (by omega)
      have hsm := h2.small
      have e1 : grTo D 40 + 1 = ((x + 1 : Nat) : Int) := by omega
      rw [e1]
      by_cases hrm : room J s.size
      · obtain ⟨a1, a2, a3⟩ := hgx.add h1 (by decide) (m := x + 1) (by omega) (by omega) hrm hsm.2.2
        rw [a1]
        unfold addR
        rcases a3 with ⟨z, hg2⟩ | z
        · rw [if_neg (fun hh => hh z)]
          refine ⟨_, _, _, rfl, .inl ⟨rfl, rfl, rfl, .inl ⟨rfl, h1, ?_, h3, h4⟩⟩⟩
          rw [raws_snoc]
          exact hg2.mono (by omega)
        · rw [if_pos (by rw [z]; decide)]
          exact ⟨_, _, _, rfl, .inr (.inl ⟨z, rfl, .inr ⟨rfl, D, J, x + 1, x, ⟨hgx, h1, h3, h4, by omega, by omega, hrm, a2, rfl, rfl, rfl⟩⟩⟩)⟩
      · exact ⟨D, J, 6, add_full h1 (by omega) hrm, .inr (.inr (.inr ⟨rfl, rfl, hrm, rfl, rfl⟩))⟩
    · cases hh

section
variable {W w : World} {L : List HP}

theorem Keeps_spec {b : Option Addr} {n c : Nat} {ss : List PStep} {K : VK} (h : St W w L) (hr : Ro W b n 6 (ss.flatMap stepCells)) (hn : ss.length = n) (hmx : n ≤ maxLen) (hK : ∀ w', St W w' L → K (.bool true) w') : bondstorelaw06_JournalKeeps b n c K w := by
  unfold bondstorelaw06_JournalKeeps
  refine alive6_spec h fun w h => ?_
  simp only [nn_some, add_mk, Nat.zero_add, Nat.add_zero, Nat.reduceAdd, Nat.reduceMul, Option.isNone_some, Option.isNone_none, br_true, br_false, Bool.not_true, Bool.not_false, xI_eq, xB_eq, xS_eq, xP_eq, xL_eq, x0_eq, x2_eq, x3_eq, chk_eq, true_and, and_true, List.set_cons_zero, List.set_cons_succ, List.eraseIdx_cons_zero, List.eraseIdx_cons_succ]
  refine great6_spec h hr hn hmx (fun w h => ?_) (fun h60 hsm w h => ?_)
  · simp only [nn_some, add_mk, Nat.zero_add, Nat.add_zero, Nat.reduceAdd, Nat.reduceMul, Option.isNone_some, Option.isNone_none, br_true, br_false, Bool.not_true, Bool.not_false, xI_eq, xB_eq, xS_eq, xP_eq, xL_eq, x0_eq, x2_eq, x3_eq, chk_eq, true_and, and_true, List.set_cons_zero, List.set_cons_succ, List.eraseIdx_cons_zero, List.eraseIdx_cons_succ]
    exact hK _ h
  simp only [nn_some, add_mk, Nat.zero_add, Nat.add_zero, Nat.reduceAdd, Nat.reduceMul, Option.isNone_some, Option.isNone_none, br_true, br_false, Bool.not_true, Bool.not_false, xI_eq, xB_eq, xS_eq, xP_eq, xL_eq, x0_eq, x2_eq, x3_eq, chk_eq, true_and, and_true, List.set_cons_zero, List.set_cons_succ, List.eraseIdx_cons_zero, List.eraseIdx_cons_succ]
  refine New_spec h fun d w h => ?_
  simp only [nn_some, add_mk, Nat.zero_add, Nat.add_zero, Nat.reduceAdd, Nat.reduceMul, Option.isNone_some, Option.isNone_none, br_true, br_false, Bool.not_true, Bool.not_false, xI_eq, xB_eq, xS_eq, xP_eq, xL_eq, x0_eq, x2_eq, x3_eq, chk_eq, true_and, and_true, List.set_cons_zero, List.set_cons_succ, List.eraseIdx_cons_zero, List.eraseIdx_cons_succ]
  have hg0 := JG_new (n := 40) (by decide) (lo := 0) (hi := 40) (by decide) (by decide) (by decide) 0 (by decide)
  refine Open_new (n := 40) (k := 0) h rfl (by decide) (by decide) fun r bb cc w h => ?_
  simp only [nn_some, add_mk, Nat.zero_add, Nat.add_zero, Nat.reduceAdd, Nat.reduceMul, Option.isNone_some, Option.isNone_none, br_true, br_false, Bool.not_true, Bool.not_false, xI_eq, xB_eq, xS_eq, xP_eq, xL_eq, x0_eq, x2_eq, x3_eq, chk_eq, true_and, and_true, List.set_cons_zero, List.set_cons_succ, List.eraseIdx_cons_zero, List.eraseIdx_cons_succ]
  rw [bne_self_eq_false]
  simp only [nn_some, add_mk, Nat.zero_add, Nat.add_zero, Nat.reduceAdd, Nat.reduceMul, Option.isNone_some, Option.isNone_none, br_true, br_false, Bool.not_true, Bool.not_false, xI_eq, xB_eq, xS_eq, xP_eq, xL_eq, x0_eq, x2_eq, x3_eq, chk_eq, true_and, and_true, List.set_cons_zero, List.set_cons_succ, List.eraseIdx_cons_zero, List.eraseIdx_cons_succ]
  have h := h.drop
  have h0 := h.push (A := own none 0 0 1 (([] : List ByteArray).map Value.string)) (own_nil 1)
  refine ⟨fun us w' => ∃ (i : Nat) (D : Disk) (J : PJ) (ws : List ByteArray) (t : ByteArray) (may : Bool) (r : Nat) (wb : Option Addr) (wn wc : Nat) (M : List HP), us = [.bool false, .pointer (some ⟨d, 0, none⟩), .pointer (some ⟨r, 0, none⟩), .slice wb wn wc, .string t, .bool may, .slice b n c, .int .i64 n, .int .i64 i] ∧ i ≤ n ∧ ws.length = wn ∧ KS D J ws t may i ∧
      St W w' (own wb wn wc 1 (ws.map .string) :: pt r (jCells d J) :: disk d D :: (M ++ L)),
    fun us _ => match us with | [_, _, _, _, _, _, _, _, .int _ i] => n - i.toNat | _ => 0, ⟨0, Disk.new 40, ⟨0, 40, 0, 0, false⟩, [], .empty, false, r, none, 0, 0, [], rfl, Nat.zero_le _, rfl, .inl ⟨rfl, rfl, hg0, rfl, rfl⟩, h0⟩, ?_⟩
  rintro b3 p3 p4 sb3 sn3 sc3 s1 b4 sb4 sn4 sc4 n2 n3 w2 ⟨i, D, J, ws, t, may, r, wb, wn, wc, M, he, hi, hwl, hks, h⟩
  cases he
  refine br_dec (fun hlt => ?_) (fun hge => hK _ (St.drops M h.drop.drop.drop))
  have hlt2 : i < ss.length := by omega
  have hget : ss[i]? = some ss[i] := by simp [hlt2]
  have e5 : IntKind.i64.wrap ((i : Int) + 1) = ((i + 1 : Nat) : Int) := by rw [wrap_id (by omega)]; omega
  have hst := hsm ss[i] (List.getElem_mem hlt2)
  generalize hI : (fun (us : List Value) (w' : World) => ∃ (i : Nat) (D : Disk) (J : PJ) (ws : List ByteArray) (t : ByteArray) (may : Bool) (r : Nat) (wb : Option Addr) (wn wc : Nat) (M : List HP), us = [.bool false, .pointer (some ⟨d, 0, none⟩), .pointer (some ⟨r, 0, none⟩), .slice wb wn wc, .string t, .bool may, .slice b n c, .int .i64 n, .int .i64 i] ∧ i ≤ n ∧ ws.length = wn ∧ KS D J ws t may i ∧
      St W w' (own wb wn wc 1 (ws.map .string) :: pt r (jCells d J) :: disk d D :: (M ++ L))) = I
  generalize hμ : (fun (us : List Value) (_ : World) => match us with | [_, _, _, _, _, _, _, _, .int _ i] => n - i.toNat | _ => 0) = μ
  have fin : ∀ (D' : Disk) (J' : PJ) (ws' : List ByteArray) (t' : ByteArray) (may' : Bool) (r' : Nat) (wb' : Option Addr) (wn' wc' : Nat) (M' : List HP) (w' : World), KS D' J' ws' t' may' (i + 1) → ws'.length = wn' → St W w' (own wb' wn' wc' 1 (ws'.map .string) :: pt r' (jCells d J') :: disk d D' :: (M' ++ L)) →
      bondstorelaw06_JournalKeeps.j1 K I false (some ⟨d, 0, none⟩) b n c n i μ (some ⟨r, 0, none⟩) sb3 sn3 sc3 s1 b4 w2 (some ⟨r', 0, none⟩) wb' wn' wc' t' may' w' := fun D' J' ws' t' may' r' wb' wn' wc' M' w' hks hwl h => by
    unfold bondstorelaw06_JournalKeeps.j1
    refine Seq_spec (k := 1) h rfl ?_
    simp only [nn_some, add_mk, Nat.zero_add, Nat.add_zero, Nat.reduceAdd, Nat.reduceMul, Option.isNone_some, Option.isNone_none, br_true, br_false, Bool.not_true, Bool.not_false, xI_eq, xB_eq, xS_eq, xP_eq, xL_eq, x0_eq, x2_eq, x3_eq, chk_eq, true_and, and_true, List.set_cons_zero, List.set_cons_succ, List.eraseIdx_cons_zero, List.eraseIdx_cons_succ]
    have hall := hks.all (by omega)
    have e1 : (J'.seq != (wn' : Int)) = false := by rw [hall.2.2.2.2.1, hwl]; exact bne_self_eq_false _
    rw [e1, e5]
    simp only [nn_some, add_mk, Nat.zero_add, Nat.add_zero, Nat.reduceAdd, Nat.reduceMul, Option.isNone_some, Option.isNone_none, br_true, br_false, Bool.not_true, Bool.not_false, xI_eq, xB_eq, xS_eq, xP_eq, xL_eq, x0_eq, x2_eq, x3_eq, chk_eq, true_and, and_true, List.set_cons_zero, List.set_cons_succ, List.eraseIdx_cons_zero, List.eraseIdx_cons_succ]
    rw [← hI, ← hμ]
    exact ⟨⟨i + 1, D', J', ws', t', may', r', wb', wn', wc', M', rfl, by omega, hwl, hks, h⟩, by dsimp only; omega⟩
  refine elem_ro (ys := stepCells ss[i]) h hr ⟨by omega, hlt⟩ rfl rfl (stepCells_one _) (fun j v hj => by rw [Int.toNat_natCast]; exact steps_get hget j v hj) fun r1 w h => ?_
  generalize ss[i] = s at *
  obtain ⟨hDok, hJok, hfew, hlen, hsq, hw40, hsick⟩ := hks.all (by omega)
  refine ld_pt (k := 0) h rfl (v := .int .i64 s.kind) rfl ?_
  simp only [nn_some, add_mk, Nat.zero_add, Nat.add_zero, Nat.reduceAdd, Nat.reduceMul, Option.isNone_some, Option.isNone_none, br_true, br_false, Bool.not_true, Bool.not_false, xI_eq, xB_eq, xS_eq, xP_eq, xL_eq, x0_eq, x2_eq, x3_eq, chk_eq, true_and, and_true, List.set_cons_zero, List.set_cons_succ, List.eraseIdx_cons_zero, List.eraseIdx_cons_succ]
  refine br_eq (fun hk0 => ?_) (fun hk0 => ?_)
  · obtain ⟨hn0, hn1⟩ := hst hk0
    refine ld_pt (k := 0) h rfl (v := .int .i64 s.n) rfl ?_
    simp only [nn_some, add_mk, Nat.zero_add, Nat.add_zero, Nat.reduceAdd, Nat.reduceMul, Option.isNone_some, Option.isNone_none, br_true, br_false, Bool.not_true, Bool.not_false, xI_eq, xB_eq, xS_eq, xP_eq, xL_eq, x0_eq, x2_eq, x3_eq, chk_eq, true_and, and_true, List.set_cons_zero, List.set_cons_succ, List.eraseIdx_cons_zero, List.eraseIdx_cons_succ]
    refine ld_pt (k := 0) h rfl (v := .int .u8 s.c) rfl ?_
    simp only [nn_some, add_mk, Nat.zero_add, Nat.add_zero, Nat.reduceAdd, Nat.reduceMul, Option.isNone_some, Option.isNone_none, br_true, br_false, Bool.not_true, Bool.not_false, xI_eq, xB_eq, xS_eq, xP_eq, xL_eq, x0_eq, x2_eq, x3_eq, chk_eq, true_and, and_true, List.set_cons_zero, List.set_cons_succ, List.eraseIdx_cons_zero, List.eraseIdx_cons_succ]
    refine text_spec h ⟨hn0, hn1⟩ fun x w hx h => ?_
    simp only [nn_some, add_mk, Nat.zero_add, Nat.add_zero, Nat.reduceAdd, Nat.reduceMul, Option.isNone_some, Option.isNone_none, br_true, br_false, Bool.not_true, Bool.not_false, xI_eq, xB_eq, xS_eq, xP_eq, xL_eq, x0_eq, x2_eq, x3_eq, chk_eq, true_and, and_true, List.set_cons_zero, List.set_cons_succ, List.eraseIdx_cons_zero, List.eraseIdx_cons_succ]
    have h := h.drop
    refine Sick_spec (k := 1) h rfl ?_
    simp only [nn_some, add_mk, Nat.zero_add, Nat.add_zero, Nat.reduceAdd, Nat.reduceMul, Option.isNone_some, Option.isNone_none, br_true, br_false, Bool.not_true, Bool.not_false, xI_eq, xB_eq, xS_eq, xP_eq, xL_eq, x0_eq, x2_eq, x3_eq, chk_eq, true_and, and_true, List.set_cons_zero, List.set_cons_succ, List.eraseIdx_cons_zero, List.eraseIdx_cons_succ]
    refine jRoom_spec (k := 1) h rfl hJok hDok fun w h => ?_
    simp only [nn_some, add_mk, Nat.zero_add, Nat.add_zero, Nat.reduceAdd, Nat.reduceMul, Option.isNone_some, Option.isNone_none, br_true, br_false, Bool.not_true, Bool.not_false, xI_eq, xB_eq, xS_eq, xP_eq, xL_eq, x0_eq, x2_eq, x3_eq, chk_eq, true_and, and_true, List.set_cons_zero, List.set_cons_succ, List.eraseIdx_cons_zero, List.eraseIdx_cons_succ]
    refine At_spec6 (k := 1) h rfl ?_
    simp only [nn_some, add_mk, Nat.zero_add, Nat.add_zero, Nat.reduceAdd, Nat.reduceMul, Option.isNone_some, Option.isNone_none, br_true, br_false, Bool.not_true, Bool.not_false, xI_eq, xB_eq, xS_eq, xP_eq, xL_eq, x0_eq, x2_eq, x3_eq, chk_eq, true_and, and_true, List.set_cons_zero, List.set_cons_succ, List.eraseIdx_cons_zero, List.eraseIdx_cons_succ]
    refine Greatest_spec (k := 2) h rfl hDok fun w h => ?_
    simp only [nn_some, add_mk, Nat.zero_add, Nat.add_zero, Nat.reduceAdd, Nat.reduceMul, Option.isNone_some, Option.isNone_none, br_true, br_false, Bool.not_true, Bool.not_false, xI_eq, xB_eq, xS_eq, xP_eq, xL_eq, x0_eq, x2_eq, x3_eq, chk_eq, true_and, and_true, List.set_cons_zero, List.set_cons_succ, List.eraseIdx_cons_zero, List.eraseIdx_cons_succ]
    rw [hlen]
    obtain ⟨D', J', e, hA, hcase⟩ := hks.add (s := x) (by omega) (by omega)
    refine jAdd_spec (k := 1) (k2 := 2) h rfl rfl (by decide) hJok hDok (by omega) (by show _ ≤ 140737488351232; omega) fun w h => ?_
    rw [hA] at h ⊢
    simp only [nn_some, add_mk, Nat.zero_add, Nat.add_zero, Nat.reduceAdd, Nat.reduceMul, Option.isNone_some, Option.isNone_none, br_true, br_false, Bool.not_true, Bool.not_false, xI_eq, xB_eq, xS_eq, xP_eq, xL_eq, x0_eq, x2_eq, x3_eq, chk_eq, true_and, and_true, List.set_cons_zero, List.set_cons_succ, List.eraseIdx_cons_zero, List.eraseIdx_cons_succ] at h ⊢
    rcases hcase with ⟨rfl, rfl, hat, hks2⟩ | ⟨rfl, rfl, hks2⟩ | ⟨rfl, rfl, hD, hJ2⟩ | ⟨rfl, rfl, hrm, hD, hJ2⟩
    · rw [beq_self_eq_true]
      simp only [nn_some, add_mk, Nat.zero_add, Nat.add_zero, Nat.reduceAdd, Nat.reduceMul, Option.isNone_some, Option.isNone_none, br_true, br_false, Bool.not_true, Bool.not_false, xI_eq, xB_eq, xS_eq, xP_eq, xL_eq, x0_eq, x2_eq, x3_eq, chk_eq, true_and, and_true, List.set_cons_zero, List.set_cons_succ, List.eraseIdx_cons_zero, List.eraseIdx_cons_succ]
      refine mk_of h fun r2 w h => ?_
      refine appSl_own (k := 1) (ys := [.string x]) h rfl (Src_pt (k' := 0) h rfl rfl fun j v hj => by rw [Nat.zero_add]; exact hj) (by simp) rfl (by omega) (by omega) (by simp [Value.oneCell']) fun b' c' w h => ?_
      simp only [nn_some, add_mk, Nat.zero_add, Nat.add_zero, Nat.reduceAdd, Nat.reduceMul, Option.isNone_some, Option.isNone_none, br_true, br_false, Bool.not_true, Bool.not_false, xI_eq, xB_eq, xS_eq, xP_eq, xL_eq, x0_eq, x2_eq, x3_eq, chk_eq, true_and, and_true, List.set_cons_zero, List.set_cons_succ, List.eraseIdx_cons_zero, List.eraseIdx_cons_succ] at h ⊢
      have h := h.drop
      have ex : ws.map Value.string ++ [Value.string x] = (ws ++ [x]).map .string := by simp
      rw [ex] at h
      refine At_spec6 (k := 1) h rfl ?_
      simp only [nn_some, add_mk, Nat.zero_add, Nat.add_zero, Nat.reduceAdd, Nat.reduceMul, Option.isNone_some, Option.isNone_none, br_true, br_false, Bool.not_true, Bool.not_false, xI_eq, xB_eq, xS_eq, xP_eq, xL_eq, x0_eq, x2_eq, x3_eq, chk_eq, true_and, and_true, List.set_cons_zero, List.set_cons_succ, List.eraseIdx_cons_zero, List.eraseIdx_cons_succ]
      have ew : IntKind.i64.wrap (12 + (x.size : Int)) = ((12 + x.size : Nat) : Int) := by rw [wrap_id (by omega)]; omega
      rw [ew]
      refine rCount_spec (by omega) ?_
      simp only [nn_some, add_mk, Nat.zero_add, Nat.add_zero, Nat.reduceAdd, Nat.reduceMul, Option.isNone_some, Option.isNone_none, br_true, br_false, Bool.not_true, Bool.not_false, xI_eq, xB_eq, xS_eq, xP_eq, xL_eq, x0_eq, x2_eq, x3_eq, chk_eq, true_and, and_true, List.set_cons_zero, List.set_cons_succ, List.eraseIdx_cons_zero, List.eraseIdx_cons_succ]
      have hcn : cnt (12 + x.size) ≤ 400 := by unfold cnt; split <;> omega
      have j1 := hJok.at1
      have j2 := hJok.at2
      have j3 := hJok.hi
      have j4 := hJok.lo
      have ew2 : IntKind.i64.wrap (J.at' + (cnt (12 + x.size) : Int)) = J.at' + (cnt (12 + x.size) : Int) := wrap_id (by omega)
      rw [ew2, hat, bne_self_eq_false]
      simp only [nn_some, add_mk, Nat.zero_add, Nat.add_zero, Nat.reduceAdd, Nat.reduceMul, Option.isNone_some, Option.isNone_none, br_true, br_false, Bool.not_true, Bool.not_false, xI_eq, xB_eq, xS_eq, xP_eq, xL_eq, x0_eq, x2_eq, x3_eq, chk_eq, true_and, and_true, List.set_cons_zero, List.set_cons_succ, List.eraseIdx_cons_zero, List.eraseIdx_cons_succ]
      exact fin D' J' (ws ++ [x]) s1 false r b' (sn3 + 1) c' M w hks2 (by rw [List.length_append, hwl]; rfl) h
    · have e0 : ((8 : Int) == 0) = false := rfl
      rw [e0, beq_self_eq_true, hsick]
      simp only [nn_some, add_mk, Nat.zero_add, Nat.add_zero, Nat.reduceAdd, Nat.reduceMul, Option.isNone_some, Option.isNone_none, br_true, br_false, Bool.not_true, Bool.not_false, xI_eq, xB_eq, xS_eq, xP_eq, xL_eq, x0_eq, x2_eq, x3_eq, chk_eq, true_and, and_true, List.set_cons_zero, List.set_cons_succ, List.eraseIdx_cons_zero, List.eraseIdx_cons_succ]
      refine Sick_spec (k := 1) h rfl ?_
      simp only [nn_some, add_mk, Nat.zero_add, Nat.add_zero, Nat.reduceAdd, Nat.reduceMul, Option.isNone_some, Option.isNone_none, br_true, br_false, Bool.not_true, Bool.not_false, xI_eq, xB_eq, xS_eq, xP_eq, xL_eq, x0_eq, x2_eq, x3_eq, chk_eq, true_and, and_true, List.set_cons_zero, List.set_cons_succ, List.eraseIdx_cons_zero, List.eraseIdx_cons_succ]
      rw [(hks2.all (by omega)).2.2.2.2.2.2]
      simp only [nn_some, add_mk, Nat.zero_add, Nat.add_zero, Nat.reduceAdd, Nat.reduceMul, Option.isNone_some, Option.isNone_none, br_true, br_false, Bool.not_true, Bool.not_false, xI_eq, xB_eq, xS_eq, xP_eq, xL_eq, x0_eq, x2_eq, x3_eq, chk_eq, true_and, and_true, List.set_cons_zero, List.set_cons_succ, List.eraseIdx_cons_zero, List.eraseIdx_cons_succ]
      exact fin D' J' ws x true r sb3 sn3 sc3 M w hks2 hwl h
    · have e0 : ((9 : Int) == 0) = false := rfl
      have e1 : ((9 : Int) == 8) = false := rfl
      have e2 : ((9 : Int) == 6) = false := rfl
      rw [e0, e1, e2, beq_self_eq_true, bne_self_eq_false, hsick, beq_self_eq_true]
      simp only [nn_some, add_mk, Nat.zero_add, Nat.add_zero, Nat.reduceAdd, Nat.reduceMul, Option.isNone_some, Option.isNone_none, br_true, br_false, Bool.not_true, Bool.not_false, xI_eq, xB_eq, xS_eq, xP_eq, xL_eq, x0_eq, x2_eq, x3_eq, chk_eq, true_and, and_true, List.set_cons_zero, List.set_cons_succ, List.eraseIdx_cons_zero, List.eraseIdx_cons_succ]
      rw [hD, hJ2] at h
      exact fin D J ws s1 true r sb3 sn3 sc3 M w (hks.mono (by omega)) hwl h
    · have e0 : ((6 : Int) == 0) = false := rfl
      have e1 : ((6 : Int) == 8) = false := rfl
      have e2 : ((6 : Int) != 9) = true := rfl
      have e3 : ((6 : Int) == 9) = false := rfl
      rw [e0, e1, e2, e3, beq_self_eq_true, bne_self_eq_false, hsick, beq_self_eq_true, decide_eq_false hrm]
      simp only [nn_some, add_mk, Nat.zero_add, Nat.add_zero, Nat.reduceAdd, Nat.reduceMul, Option.isNone_some, Option.isNone_none, br_true, br_false, Bool.not_true, Bool.not_false, xI_eq, xB_eq, xS_eq, xP_eq, xL_eq, x0_eq, x2_eq, x3_eq, chk_eq, true_and, and_true, List.set_cons_zero, List.set_cons_succ, List.eraseIdx_cons_zero, List.eraseIdx_cons_succ]
      rw [hD, hJ2] at h
      exact fin D J ws s1 false r sb3 sn3 sc3 M w (hks.mono (by omega)) hwl h
  · refine br_eq (fun hk1 => ?_) (fun hk1 => ?_)
    · refine ld_pt (k := 0) h rfl (v := .int .u64 s.mask) rfl ?_
      simp only [nn_some, add_mk, Nat.zero_add, Nat.add_zero, Nat.reduceAdd, Nat.reduceMul, Option.isNone_some, Option.isNone_none, br_true, br_false, Bool.not_true, Bool.not_false, xI_eq, xB_eq, xS_eq, xP_eq, xL_eq, x0_eq, x2_eq, x3_eq, chk_eq, true_and, and_true, List.set_cons_zero, List.set_cons_succ, List.eraseIdx_cons_zero, List.eraseIdx_cons_succ]
      refine ld_pt (k := 0) h rfl (v := .int .i64 s.torn) rfl ?_
      simp only [nn_some, add_mk, Nat.zero_add, Nat.add_zero, Nat.reduceAdd, Nat.reduceMul, Option.isNone_some, Option.isNone_none, br_true, br_false, Bool.not_true, Bool.not_false, xI_eq, xB_eq, xS_eq, xP_eq, xL_eq, x0_eq, x2_eq, x3_eq, chk_eq, true_and, and_true, List.set_cons_zero, List.set_cons_succ, List.eraseIdx_cons_zero, List.eraseIdx_cons_succ]
      refine ld_pt (k := 0) h rfl (v := .int .i64 s.cut) rfl ?_
      simp only [nn_some, add_mk, Nat.zero_add, Nat.add_zero, Nat.reduceAdd, Nat.reduceMul, Option.isNone_some, Option.isNone_none, br_true, br_false, Bool.not_true, Bool.not_false, xI_eq, xB_eq, xS_eq, xP_eq, xL_eq, x0_eq, x2_eq, x3_eq, chk_eq, true_and, and_true, List.set_cons_zero, List.set_cons_succ, List.eraseIdx_cons_zero, List.eraseIdx_cons_succ]
      have h := h.drop
      obtain ⟨J', gs, hgs, hid⟩ := hks.crash (by omega) s.mask s.torn s.cut
      refine Disk_Crash_spec (k := 2) h rfl hDok fun w h => ?_
      simp only [nn_some, add_mk, Nat.zero_add, Nat.add_zero, Nat.reduceAdd, Nat.reduceMul, Option.isNone_some, Option.isNone_none, br_true, br_false, Bool.not_true, Bool.not_false, xI_eq, xB_eq, xS_eq, xP_eq, xL_eq, x0_eq, x2_eq, x3_eq, chk_eq, true_and, and_true, List.set_cons_zero, List.set_cons_succ, List.eraseIdx_cons_zero, List.eraseIdx_cons_succ] at h ⊢
      generalize D.crash s.mask s.torn s.cut = D2 at *
      obtain ⟨k1, k2, k3, k4⟩ := hid
      have hop := k2.opened
      rw [k3, k4] at hop
      have hlen2 := k2.len
      have hsmall := k2.small
      refine Open_spec (k := 2) h rfl k2.ok ⟨by decide, by decide, by rw [hlen2]; decide⟩ (by decide) fun r5 b7 c7 w _ h => ?_
      rw [hop] at h ⊢
      dsimp only at h ⊢
      rw [raws_recs, raws_len] at h
      rw [raws_len]
      simp only [nn_some, add_mk, Nat.zero_add, Nat.add_zero, Nat.reduceAdd, Nat.reduceMul, Option.isNone_some, Option.isNone_none, br_true, br_false, Bool.not_true, Bool.not_false, xI_eq, xB_eq, xS_eq, xP_eq, xL_eq, x0_eq, x2_eq, x3_eq, chk_eq, true_and, and_true, List.set_cons_zero, List.set_cons_succ, List.eraseIdx_cons_zero, List.eraseIdx_cons_succ]
      rw [bne_self_eq_false]
      simp only [nn_some, add_mk, Nat.zero_add, Nat.add_zero, Nat.reduceAdd, Nat.reduceMul, Option.isNone_some, Option.isNone_none, br_true, br_false, Bool.not_true, Bool.not_false, xI_eq, xB_eq, xS_eq, xP_eq, xL_eq, x0_eq, x2_eq, x3_eq, chk_eq, true_and, and_true, List.set_cons_zero, List.set_cons_succ, List.eraseIdx_cons_zero, List.eraseIdx_cons_succ]
      refine tail6_spec (gs := gs) (ws := ws) (k := 2) h rfl hwl (by omega) rfl (by omega) (fun L' => texts_own (k := L'.length) (by simp; rfl) rfl) hgs fun w h => ?_
      simp only [nn_some, add_mk, Nat.zero_add, Nat.add_zero, Nat.reduceAdd, Nat.reduceMul, Option.isNone_some, Option.isNone_none, br_true, br_false, Bool.not_true, Bool.not_false, xI_eq, xB_eq, xS_eq, xP_eq, xL_eq, x0_eq, x2_eq, x3_eq, chk_eq, true_and, and_true, List.set_cons_zero, List.set_cons_succ, List.eraseIdx_cons_zero, List.eraseIdx_cons_succ]
      have hJ' : (⟨0, 40, J'.at', J'.seq, false⟩ : PJ) = J' := by
        obtain ⟨x1, x2, x3, x4, x5⟩ := J'
        dsimp only at k1 k3 k4
        subst k1; subst k3; subst k4
        rfl
      rw [hJ'] at h
      have p := (List.perm_append_comm (l₁ := [own sb3 sn3 sc3 1 (ws.map Value.string), pt r (jCells d J)]) (l₂ := [disk d D2])).append_right (M ++ L)
      have h := h.perm (List.Perm.cons _ (List.Perm.cons _ p))
      exact fin D2 J' gs s1 false r5 b7 gs.length c7 (own sb3 sn3 sc3 1 (ws.map Value.string) :: pt r (jCells d J) :: M) w (.inl ⟨rfl, k1, k2.mono (by omega), k3, k4⟩) rfl h
    · refine br_eq (fun hk2 => ?_) (fun hk2 => ?_)
      · refine ld_pt (k := 0) h rfl (v := .int .i64 s.n) rfl ?_
        simp only [nn_some, add_mk, Nat.zero_add, Nat.add_zero, Nat.reduceAdd, Nat.reduceMul, Option.isNone_some, Option.isNone_none, br_true, br_false, Bool.not_true, Bool.not_false, xI_eq, xB_eq, xS_eq, xP_eq, xL_eq, x0_eq, x2_eq, x3_eq, chk_eq, true_and, and_true, List.set_cons_zero, List.set_cons_succ, List.eraseIdx_cons_zero, List.eraseIdx_cons_succ]
        have h := h.drop
        refine Disk_Arm_spec (k := 2) h rfl fun w h => ?_
        simp only [nn_some, add_mk, Nat.zero_add, Nat.add_zero, Nat.reduceAdd, Nat.reduceMul, Option.isNone_some, Option.isNone_none, br_true, br_false, Bool.not_true, Bool.not_false, xI_eq, xB_eq, xS_eq, xP_eq, xL_eq, x0_eq, x2_eq, x3_eq, chk_eq, true_and, and_true, List.set_cons_zero, List.set_cons_succ, List.eraseIdx_cons_zero, List.eraseIdx_cons_succ] at h ⊢
        exact fin (D.armed s.n) J ws s1 b4 r sb3 sn3 sc3 M w ((hks.armed s.n).mono (by omega)) hwl h
      · exact fin D J ws s1 b4 r sb3 sn3 sc3 M w (hks.mono (by omega)) hwl h.drop

theorem Keeps_ok {a0 : Option Addr} {n0 c0 : Nat} {x0 : List Value} (ro0 : Ro W a0 n0 6 x0) (el0 : Elems [.i .i64, .i .i64, .i .u8, .i .u64, .i .i64, .i .i64] n0 x0) (mx0 : n0 ≤ maxLen) :
    bondstorelaw06_JournalKeeps.u [.slice a0 n0 c0] (fun v w' => v = .bool true ∧ Below W.heap.size W w') W := by
  obtain ⟨ss, h1, h2, h3⟩ := elems_steps el0 ro0.1
  subst h2
  unfold bondstorelaw06_JournalKeeps.u
  exact Keeps_spec (K := fun v w' => v = .bool true ∧ Below W.heap.size W w') (St.start W) ro0 h1 mx0 (fun w' h => ⟨rfl, h.below⟩)
end
end Go.Sep
