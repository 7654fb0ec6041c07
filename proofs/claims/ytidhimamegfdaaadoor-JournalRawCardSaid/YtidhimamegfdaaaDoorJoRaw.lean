/- The law JournalRaw. -/
import Derived.Test.YtidhimamegfdaaaDoorJo4
import Derived.Test.YtidhimamegfdaaaDoorJoRoom
namespace Go.Sep
open Go.Den Go.RowKit Go.Prog Go.Plat
set_option linter.unusedSimpArgs false
set_option linter.unusedVariables false

theorem open_chain {D : Disk} {to : Int} : ∀ (f : Nat) {a q : Int}, Chain D to a q (openF D to f a q).1 (openF D to f a q).2.1
  | 0, a, q => rfl
  | f + 1, a, q => by
    simp only [openF]
    cases hn : nextF D a to (q + 1) with
    | none => exact rfl
    | some y =>
      obtain ⟨s, a2⟩ := y
      exact ⟨a2, hn, open_chain f⟩

section
variable {W w : World} {L : List HP}

theorem Restart_nil {K : VK} (hK : K (.tuple ⟨[]⟩) w) : journal_Journal_Restart none K w := by
  unfold journal_Journal_Restart
  simp only [nn_some, add_mk, Nat.zero_add, Nat.add_zero, Nat.reduceAdd, Nat.reduceMul, Option.isNone_some, Option.isNone_none, br_true, br_false, Bool.not_true, Bool.not_false, xI_eq, xB_eq, xS_eq, xP_eq, xL_eq, x0_eq, x2_eq, x3_eq, chk_eq, true_and, and_true, List.set_cons_zero, List.set_cons_succ, List.eraseIdx_cons_zero, List.eraseIdx_cons_succ]
  exact hK

theorem Raw_j3 {b : Option Addr} {c r d : Nat} {D : Disk} {lo hi q : Int} {K : VK} (recs : List (List UInt8)) (e : Int) (h : St W w (own b recs.length c 1 (recs.map recV) :: pt r (jCells d ⟨lo, hi, e, q + recs.length, false⟩) :: disk d D :: L)) (hok : D.Ok) (hlen : D.safe.length = 12)
    (hp : 0 ≤ lo ∧ lo < hi ∧ hi ≤ 12) (hq : 0 ≤ q ∧ q ≤ 1152921504606846976) (hrl : recs.length ≤ 4096) (hch : Chain D hi lo q recs e) (hK : ∀ w', St W w' L → K (.bool true) w') :
    bondstorelaw06_JournalRaw.j3 K false (some ⟨d, 0, none⟩) (some ⟨r, 0, none⟩) lo b recs.length c q hi false w := by
  unfold bondstorelaw06_JournalRaw.j3
  simp only [nn_some, add_mk, Nat.zero_add, Nat.add_zero, Nat.reduceAdd, Nat.reduceMul, Option.isNone_some, Option.isNone_none, br_true, br_false, Bool.not_true, Bool.not_false, xI_eq, xB_eq, xS_eq, xP_eq, xL_eq, x0_eq, x2_eq, x3_eq, chk_eq, true_and, and_true, List.set_cons_zero, List.set_cons_succ, List.eraseIdx_cons_zero, List.eraseIdx_cons_succ]
  refine ⟨fun us w' => ∃ (i : Nat) (a : Int), us = [.bool false, .pointer (some ⟨d, 0, none⟩), .pointer (some ⟨r, 0, none⟩), .int .i64 a, .slice b recs.length c, .int .i64 recs.length, .int .i64 i] ∧ i ≤ recs.length ∧ lo ≤ a ∧ a ≤ hi ∧ Chain D hi a (q + i) (recs.drop i) e ∧ St W w' (own b recs.length c 1 (recs.map recV) :: pt r (jCells d ⟨lo, hi, e, q + recs.length, false⟩) :: disk d D :: L),
    fun us _ => match us with | [_, _, _, _, _, _, .int _ i] => recs.length - i.toNat | _ => 0, ⟨0, lo, rfl, Nat.zero_le _, Int.le_refl _, by omega, by rw [show q + ((0 : Nat) : Int) = q from by omega]; exact hch, h⟩, ?_⟩
  rintro b6 p4 p5 a sb4 sn4 sc4 n10 n11 w7 ⟨i, a0, he, hi', hlo, hhi, hch, h⟩
  cases he
  refine br_dec (fun hlt => ?_) (fun hge => ?_)
  · have hlt2 : i < recs.length := by omega
    rw [List.drop_eq_getElem_cons hlt2] at hch
    obtain ⟨a2, hnx, hch⟩ := hch
    have hget : (recs.map recV)[i]? = some (recV recs[i]) := by rw [List.getElem?_map]; simp [hlt2]
    obtain ⟨x1, x2, x3, x4, x5, x6⟩ := nextF_in hnx
    obtain ⟨m, dd, m1, m2, hv, hsec⟩ := nextF_inv (by omega) hnx
    have hcn : cnt (12 + recs[i].length) ≤ 400 := by unfold cnt; split <;> omega
    have hsz1 := read_size hok (i := a) ⟨by omega, by omega⟩
    refine ixs_own (k := 0) h rfl ⟨by omega, by omega⟩ fun q0 hq0 => ?_
    subst hq0
    rw [Int.toNat_natCast, Nat.mul_one]
    refine ld_own (k := 0) (v := recV recs[i]) h rfl hget ?_
    unfold recV
    simp only [nn_some, add_mk, Nat.zero_add, Nat.add_zero, Nat.reduceAdd, Nat.reduceMul, Option.isNone_some, Option.isNone_none, br_true, br_false, Bool.not_true, Bool.not_false, xI_eq, xB_eq, xS_eq, xP_eq, xL_eq, x0_eq, x2_eq, x3_eq, chk_eq, true_and, and_true, List.set_cons_zero, List.set_cons_succ, List.eraseIdx_cons_zero, List.eraseIdx_cons_succ]
    refine Disk_Read_spec (k := 2) h rfl hok ?_
    simp only [nn_some, add_mk, Nat.zero_add, Nat.add_zero, Nat.reduceAdd, Nat.reduceMul, Option.isNone_some, Option.isNone_none, br_true, br_false, Bool.not_true, Bool.not_false, xI_eq, xB_eq, xS_eq, xP_eq, xL_eq, x0_eq, x2_eq, x3_eq, chk_eq, true_and, and_true, List.set_cons_zero, List.set_cons_succ, List.eraseIdx_cons_zero, List.eraseIdx_cons_succ]
    generalize hX : (D.read a).1 = X at *
    generalize hE : (D.read a).2 = E at *
    rw [show X = bs X.data.toList from rfl]
    refine Read_spec h (by rw [toList_length]; omega) fun w h => ?_
    rw [hv]
    unfold readRes
    simp only [nn_some, add_mk, Nat.zero_add, Nat.add_zero, Nat.reduceAdd, Nat.reduceMul, Option.isNone_some, Option.isNone_none, br_true, br_false, Bool.not_true, Bool.not_false, xI_eq, xB_eq, xS_eq, xP_eq, xL_eq, x0_eq, x2_eq, x3_eq, chk_eq, true_and, and_true, List.set_cons_zero, List.set_cons_succ, List.eraseIdx_cons_zero, List.eraseIdx_cons_succ]
    simp only [xA_eq, List.length_cons, List.length_nil, Nat.zero_add, Nat.reduceAdd, true_and]
    simp only [nn_some, add_mk, Nat.zero_add, Nat.add_zero, Nat.reduceAdd, Nat.reduceMul, Option.isNone_some, Option.isNone_none, br_true, br_false, Bool.not_true, Bool.not_false, xI_eq, xB_eq, xS_eq, xP_eq, xL_eq, x0_eq, x2_eq, x3_eq, chk_eq, true_and, and_true, List.set_cons_zero, List.set_cons_succ, List.eraseIdx_cons_zero, List.eraseIdx_cons_succ]
    refine mk_of h fun r1 w h => ?_
    refine ⟨trivial, stN_pt (k := 0) h rfl (Nat.le_of_ble_eq_true rfl) (by simp [Value.oneCell']) fun w h => ?_⟩
    rw [over_all (by simp)] at h
    simp only [nn_some, add_mk, Nat.zero_add, Nat.add_zero, Nat.reduceAdd, Nat.reduceMul, Option.isNone_some, Option.isNone_none, br_true, br_false, Bool.not_true, Bool.not_false, xI_eq, xB_eq, xS_eq, xP_eq, xL_eq, x0_eq, x2_eq, x3_eq, chk_eq, true_and, and_true, List.set_cons_zero, List.set_cons_succ, List.eraseIdx_cons_zero, List.eraseIdx_cons_succ] at h
    refine ld_pt (k := 0) h rfl (v := .int .i64 m) rfl ?_
    simp only [nn_some, add_mk, Nat.zero_add, Nat.add_zero, Nat.reduceAdd, Nat.reduceMul, Option.isNone_some, Option.isNone_none, br_true, br_false, Bool.not_true, Bool.not_false, xI_eq, xB_eq, xS_eq, xP_eq, xL_eq, x0_eq, x2_eq, x3_eq, chk_eq, true_and, and_true, List.set_cons_zero, List.set_cons_succ, List.eraseIdx_cons_zero, List.eraseIdx_cons_succ]
    have ew1 : IntKind.i64.wrap (q + 1) = q + 1 := wrap_id (by omega)
    have ew2 : IntKind.i64.wrap (q + 1 + (i : Int)) = q + (i : Int) + 1 := by rw [wrap_id (by omega)]; omega
    rw [ew1, ew2]
    have hbl : (bs recs[i]).size = recs[i].length := bs_size _
    refine rSectors_spec h (by rw [hbl]; omega) fun b5 c5 w h => ?_
    simp only [nn_some, add_mk, Nat.zero_add, Nat.add_zero, Nat.reduceAdd, Nat.reduceMul, Option.isNone_some, Option.isNone_none, br_true, br_false, Bool.not_true, Bool.not_false, xI_eq, xB_eq, xS_eq, xP_eq, xL_eq, x0_eq, x2_eq, x3_eq, chk_eq, true_and, and_true, List.set_cons_zero, List.set_cons_succ, List.eraseIdx_cons_zero, List.eraseIdx_cons_succ]
    rw [hbl] at h ⊢
    generalize hcs : [Value.int .i64 m, .int .i64 0, .string dd] = cs at *
    refine ⟨fun us w' => ∃ (k : Nat), us = [.bool false, .pointer (some ⟨d, 0, none⟩), .pointer (some ⟨r, 0, none⟩), .int .i64 a, .int .i64 i, .string (bs recs[i]), .string (bs X.data.toList), .pointer (some ⟨r1, 0, none⟩), .bool true, .slice (some ⟨q0, 0, none⟩) recs.length c, .int .i64 recs.length, .int .i64 i, .bool (decide ((i : Int) < (recs.length : Int))), .int .i64 i,
        .pointer (some ⟨q0, i, none⟩), .string (bs recs[i]), .pointer (some ⟨d, 0, none⟩), .int .i64 a, .string (bs X.data.toList), .int .i64 E, .string (bs X.data.toList), .agg ⟨cs⟩, .bool true, .bool true, .bool false, .int .i64 q, .int .i64 (q + 1), .int .i64 i, .int .i64 (q + (i : Int) + 1), .pointer (some ⟨r1, 0, none⟩), .int .i64 m, .string (bs recs[i]), .slice b5 (cnt (12 + recs[i].length)) c5, .int .i64 (cnt (12 + recs[i].length)), .int .i64 k] ∧ k ≤ cnt (12 + recs[i].length) ∧
        St W w' (own b5 (cnt (12 + recs[i].length)) c5 1 ((List.range (cnt (12 + recs[i].length))).map (sectV m (bs (frameL (q + (i : Int) + 1) (bs recs[i]))))) :: pt r1 cs :: own (some ⟨q0, 0, none⟩) recs.length c 1 (recs.map recV) :: pt r (jCells d ⟨lo, hi, e, q + recs.length, false⟩) :: disk d D :: L),
      fun us _ => match us.getLast? with | some (.int _ k) => cnt (12 + recs[i].length) - k.toNat | _ => 0, ⟨0, rfl, Nat.zero_le _, h⟩, ?_⟩
    rintro b8 p6 p7 n14 n15 s4 s5 a3 b9 sb6 sn6 sc6 n16 n17 b10 n18 a4 s6 p8 n19 s7 n20 s8 cs2 b11 b12 b13 n21 n22 n23 n24 a5 n25 s9 sb7 sn7 sc7 n26 n27 w9 ⟨k, he, hk, h⟩
    cases he
    refine br_dec (fun hlt => ?_) (fun hge => ?_)
    · have hk2 : k < cnt (12 + recs[i].length) := by omega
      have e5 : IntKind.i64.wrap ((k : Int) + 1) = ((k + 1 : Nat) : Int) := by rw [wrap_id (by omega)]; omega
      have e6 : IntKind.i64.wrap (a + (k : Int)) = a + (k : Int) := wrap_id (by omega)
      refine ixs_own (k := 0) h rfl ⟨by omega, by omega⟩ fun q5 hq5 => ?_
      subst hq5
      rw [Int.toNat_natCast, Nat.mul_one]
      refine ld_own (k := 0) (v := sectV m (bs (frameL (q + (i : Int) + 1) (bs recs[i]))) k) h rfl (by rw [List.getElem?_map, List.getElem?_range hk2]; rfl) ?_
      unfold sectV
      simp only [nn_some, add_mk, Nat.zero_add, Nat.add_zero, Nat.reduceAdd, Nat.reduceMul, Option.isNone_some, Option.isNone_none, br_true, br_false, Bool.not_true, Bool.not_false, xI_eq, xB_eq, xS_eq, xP_eq, xL_eq, x0_eq, x2_eq, x3_eq, chk_eq, true_and, and_true, List.set_cons_zero, List.set_cons_succ, List.eraseIdx_cons_zero, List.eraseIdx_cons_succ]
      rw [e6, e5]
      refine Disk_Read_spec (k := 4) h rfl hok ?_
      simp only [nn_some, add_mk, Nat.zero_add, Nat.add_zero, Nat.reduceAdd, Nat.reduceMul, Option.isNone_some, Option.isNone_none, br_true, br_false, Bool.not_true, Bool.not_false, xI_eq, xB_eq, xS_eq, xP_eq, xL_eq, x0_eq, x2_eq, x3_eq, chk_eq, true_and, and_true, List.set_cons_zero, List.set_cons_succ, List.eraseIdx_cons_zero, List.eraseIdx_cons_succ]
      have hgd : Good m (k : Int) (part (bs (frameL (q + (i : Int) + 1) (bs recs[i]))) k) := ⟨m1, m2, by omega, by omega, part_size _ k⟩
      have hlf : bs (leafL m k (part (bs (frameL (q + (i : Int) + 1) (bs recs[i]))) k)) = leaf m k (part (bs (frameL (q + (i : Int) + 1) (bs recs[i]))) k) := by unfold leaf; rw [if_pos hgd]
      rw [hsec k hk2, hlf, strEq_iff, decide_eq_true rfl]
      simp only [nn_some, add_mk, Nat.zero_add, Nat.add_zero, Nat.reduceAdd, Nat.reduceMul, Option.isNone_some, Option.isNone_none, br_true, br_false, Bool.not_true, Bool.not_false, xI_eq, xB_eq, xS_eq, xP_eq, xL_eq, x0_eq, x2_eq, x3_eq, chk_eq, true_and, and_true, List.set_cons_zero, List.set_cons_succ, List.eraseIdx_cons_zero, List.eraseIdx_cons_succ]
      refine ⟨⟨k + 1, rfl, by omega, h⟩, ?_⟩
      show cnt (12 + recs[i].length) - ((k + 1 : Nat) : Int).toNat < cnt (12 + recs[i].length) - (k : Int).toNat
      omega
    · have ew3 : IntKind.i64.wrap (12 + ((bs recs[i]).size : Int)) = ((12 + recs[i].length : Nat) : Int) := by rw [hbl, wrap_id (by omega)]; omega
      have e5 : IntKind.i64.wrap ((i : Int) + 1) = ((i + 1 : Nat) : Int) := by rw [wrap_id (by omega)]; omega
      rw [ew3]
      refine rCount_spec (by omega) ?_
      simp only [nn_some, add_mk, Nat.zero_add, Nat.add_zero, Nat.reduceAdd, Nat.reduceMul, Option.isNone_some, Option.isNone_none, br_true, br_false, Bool.not_true, Bool.not_false, xI_eq, xB_eq, xS_eq, xP_eq, xL_eq, x0_eq, x2_eq, x3_eq, chk_eq, true_and, and_true, List.set_cons_zero, List.set_cons_succ, List.eraseIdx_cons_zero, List.eraseIdx_cons_succ]
      have ew4 : IntKind.i64.wrap (a + (cnt (12 + recs[i].length) : Int)) = a2 := by rw [wrap_id (by omega)]; omega
      rw [ew4, e5]
      refine ⟨⟨i + 1, a2, rfl, by omega, by omega, x2, ?_, h.drop.drop⟩, by omega⟩
      rw [show q + ((i + 1 : Nat) : Int) = q + (i : Int) + 1 from by omega]
      exact hch
  · have hie : i = recs.length := by omega
    subst hie
    rw [List.drop_length] at hch
    have hae : a = e := hch
    subst hae
    refine Restart_nil ?_
    simp only [nn_some, add_mk, Nat.zero_add, Nat.add_zero, Nat.reduceAdd, Nat.reduceMul, Option.isNone_some, Option.isNone_none, br_true, br_false, Bool.not_true, Bool.not_false, xI_eq, xB_eq, xS_eq, xP_eq, xL_eq, x0_eq, x2_eq, x3_eq, chk_eq, true_and, and_true, List.set_cons_zero, List.set_cons_succ, List.eraseIdx_cons_zero, List.eraseIdx_cons_succ]
    refine Open_nil ?_
    simp only [nn_some, add_mk, Nat.zero_add, Nat.add_zero, Nat.reduceAdd, Nat.reduceMul, Option.isNone_some, Option.isNone_none, br_true, br_false, Bool.not_true, Bool.not_false, xI_eq, xB_eq, xS_eq, xP_eq, xL_eq, x0_eq, x2_eq, x3_eq, chk_eq, true_and, and_true, List.set_cons_zero, List.set_cons_succ, List.eraseIdx_cons_zero, List.eraseIdx_cons_succ]
    refine At_spec6 (k := 1) h rfl ?_
    simp only [nn_some, add_mk, Nat.zero_add, Nat.add_zero, Nat.reduceAdd, Nat.reduceMul, Option.isNone_some, Option.isNone_none, br_true, br_false, Bool.not_true, Bool.not_false, xI_eq, xB_eq, xS_eq, xP_eq, xL_eq, x0_eq, x2_eq, x3_eq, chk_eq, true_and, and_true, List.set_cons_zero, List.set_cons_succ, List.eraseIdx_cons_zero, List.eraseIdx_cons_succ]
    rw [beq_self_eq_true]
    simp only [nn_some, add_mk, Nat.zero_add, Nat.add_zero, Nat.reduceAdd, Nat.reduceMul, Option.isNone_some, Option.isNone_none, br_true, br_false, Bool.not_true, Bool.not_false, xI_eq, xB_eq, xS_eq, xP_eq, xL_eq, x0_eq, x2_eq, x3_eq, chk_eq, true_and, and_true, List.set_cons_zero, List.set_cons_succ, List.eraseIdx_cons_zero, List.eraseIdx_cons_succ]
    refine br_dec (fun _ => ?_) (fun hh => by omega)
    have e2 : ((2 : Int) == 2) = true := rfl
    rw [e2]
    simp only [nn_some, add_mk, Nat.zero_add, Nat.add_zero, Nat.reduceAdd, Nat.reduceMul, Option.isNone_some, Option.isNone_none, br_true, br_false, Bool.not_true, Bool.not_false, xI_eq, xB_eq, xS_eq, xP_eq, xL_eq, x0_eq, x2_eq, x3_eq, chk_eq, true_and, and_true, List.set_cons_zero, List.set_cons_succ, List.eraseIdx_cons_zero, List.eraseIdx_cons_succ]
    unfold journal_Journal_Add
    simp only [nn_some, add_mk, Nat.zero_add, Nat.add_zero, Nat.reduceAdd, Nat.reduceMul, Option.isNone_some, Option.isNone_none, br_true, br_false, Bool.not_true, Bool.not_false, xI_eq, xB_eq, xS_eq, xP_eq, xL_eq, x0_eq, x2_eq, x3_eq, chk_eq, true_and, and_true, List.set_cons_zero, List.set_cons_succ, List.eraseIdx_cons_zero, List.eraseIdx_cons_succ]
    rw [e2]
    unfold journal_Journal_Seq journal_Journal_At journal_Journal_Sick
    simp only [nn_some, add_mk, Nat.zero_add, Nat.add_zero, Nat.reduceAdd, Nat.reduceMul, Option.isNone_some, Option.isNone_none, br_true, br_false, Bool.not_true, Bool.not_false, xI_eq, xB_eq, xS_eq, xP_eq, xL_eq, x0_eq, x2_eq, x3_eq, chk_eq, true_and, and_true, List.set_cons_zero, List.set_cons_succ, List.eraseIdx_cons_zero, List.eraseIdx_cons_succ]
    have e3 : (IntKind.i64.wrap (0 + 0) == 0) = true := by decide
    rw [e3]
    simp only [nn_some, add_mk, Nat.zero_add, Nat.add_zero, Nat.reduceAdd, Nat.reduceMul, Option.isNone_some, Option.isNone_none, br_true, br_false, Bool.not_true, Bool.not_false, xI_eq, xB_eq, xS_eq, xP_eq, xL_eq, x0_eq, x2_eq, x3_eq, chk_eq, true_and, and_true, List.set_cons_zero, List.set_cons_succ, List.eraseIdx_cons_zero, List.eraseIdx_cons_succ]
    unfold journal_Journal_Room
    refine tick_of h fun w h => ?_
    simp only [nn_some, add_mk, Nat.zero_add, Nat.add_zero, Nat.reduceAdd, Nat.reduceMul, Option.isNone_some, Option.isNone_none, br_true, br_false, Bool.not_true, Bool.not_false, xI_eq, xB_eq, xS_eq, xP_eq, xL_eq, x0_eq, x2_eq, x3_eq, chk_eq, true_and, and_true, List.set_cons_zero, List.set_cons_succ, List.eraseIdx_cons_zero, List.eraseIdx_cons_succ]
    exact hK _ h.drop.drop.drop

theorem Raw6_spec {b : Option Addr} {n c : Nat} {ss : List ByteArray} {lo hi q : Int} {K : VK} (h : St W w L) (hr : Ro W b n 1 (ss.map .string)) (hn : ss.length = n) (hmx : n ≤ maxLen) (hK : ∀ w', St W w' L → K (.bool true) w') : bondstorelaw06_JournalRaw b n c lo hi q K w := by
  unfold maxLen at hmx
  unfold bondstorelaw06_JournalRaw
  refine alive6_spec h fun w h => ?_
  simp only [nn_some, add_mk, Nat.zero_add, Nat.add_zero, Nat.reduceAdd, Nat.reduceMul, Option.isNone_some, Option.isNone_none, br_true, br_false, Bool.not_true, Bool.not_false, xI_eq, xB_eq, xS_eq, xP_eq, xL_eq, x0_eq, x2_eq, x3_eq, chk_eq, true_and, and_true, List.set_cons_zero, List.set_cons_succ, List.eraseIdx_cons_zero, List.eraseIdx_cons_succ]
  refine New_spec h fun d w h => ?_
  simp only [nn_some, add_mk, Nat.zero_add, Nat.add_zero, Nat.reduceAdd, Nat.reduceMul, Option.isNone_some, Option.isNone_none, br_true, br_false, Bool.not_true, Bool.not_false, xI_eq, xB_eq, xS_eq, xP_eq, xL_eq, x0_eq, x2_eq, x3_eq, chk_eq, true_and, and_true, List.set_cons_zero, List.set_cons_succ, List.eraseIdx_cons_zero, List.eraseIdx_cons_succ]
  have hc := calm_new (n := 12) (by decide)
  have e12 : ((12 : Nat) : Int) = 12 := rfl
  refine ⟨fun us w' => ∃ (j : Nat) (D : Disk), us = [.bool false, .pointer (some ⟨d, 0, none⟩), .slice b n c, .int .i64 n, .int .i64 j] ∧ j ≤ n ∧ D.Ok ∧ D.later.length ≤ 12 ∧ (D.later.length ≤ j) ∧ D.safe.length = 12 ∧ St W w' (disk d D :: L),
    fun us _ => match us with | [_, _, _, _, .int _ j] => n - j.toNat | _ => 0, ⟨0, Disk.new 12, rfl, Nat.zero_le _, hc.ok, Nat.zero_le _, Nat.zero_le _, hc.len, h⟩, ?_⟩
  rintro b2 p2 sb2 sn2 sc2 n4 n5 w2 ⟨j, D, he, hj, hok, hl12, hlj, hlen, h⟩
  cases he
  refine br_dec (fun hlt => ?_) (fun hge => ?_)
  · have hlt2 : j < ss.length := by omega
    have e5 : IntKind.i64.wrap ((j : Int) + 1) = ((j + 1 : Nat) : Int) := by rw [wrap_id (by omega)]; omega
    refine str_ro h hr hlt2 (by omega) ?_
    generalize ss[j] = s at *
    rw [e5]
    have skip : ∀ w, St W w (disk d D :: L) → (∃ (j' : Nat) (D' : Disk), [Value.bool false, .pointer (some ⟨d, 0, none⟩), .slice b n c, .int .i64 n, .int .i64 ((j + 1 : Nat) : Int)] = [.bool false, .pointer (some ⟨d, 0, none⟩), .slice b n c, .int .i64 n, .int .i64 j'] ∧ j' ≤ n ∧ D'.Ok ∧ D'.later.length ≤ 12 ∧ (D'.later.length ≤ j') ∧ D'.safe.length = 12 ∧ St W w (disk d D' :: L)) := fun w h =>
      ⟨j + 1, D, rfl, by omega, hok, hl12, by omega, hlen, h⟩
    refine br_dec (fun h12 => ?_) (fun _ => ⟨skip _ h, by dsimp only; omega⟩)
    refine br_dec (fun h128 => ?_) (fun _ => ⟨skip _ h, by dsimp only; omega⟩)
    have hwl := write_len D (j : Int) s
    refine Disk_Write_spec (k := 0) h rfl hok fun w h => ?_
    simp only [nn_some, add_mk, Nat.zero_add, Nat.add_zero, Nat.reduceAdd, Nat.reduceMul, Option.isNone_some, Option.isNone_none, br_true, br_false, Bool.not_true, Bool.not_false, xI_eq, xB_eq, xS_eq, xP_eq, xL_eq, x0_eq, x2_eq, x3_eq, chk_eq, true_and, and_true, List.set_cons_zero, List.set_cons_succ, List.eraseIdx_cons_zero, List.eraseIdx_cons_succ] at h ⊢
    exact ⟨⟨j + 1, _, rfl, by omega, write_ok hok _ _ (by omega), by omega, by omega, by rw [hwl.1]; exact hlen, h⟩, by omega⟩
  · refine Disk_Sync_spec (k := 0) h rfl hok fun w h => ?_
    simp only [nn_some, add_mk, Nat.zero_add, Nat.add_zero, Nat.reduceAdd, Nat.reduceMul, Option.isNone_some, Option.isNone_none, br_true, br_false, Bool.not_true, Bool.not_false, xI_eq, xB_eq, xS_eq, xP_eq, xL_eq, x0_eq, x2_eq, x3_eq, chk_eq, true_and, and_true, List.set_cons_zero, List.set_cons_succ, List.eraseIdx_cons_zero, List.eraseIdx_cons_succ] at h ⊢
    have hok2 := sync_ok hok
    have hlen2 : D.sync.1.safe.length = 12 := by rw [Dk.sync_len.1]; exact hlen
    generalize D.sync.1 = D2 at *
    by_cases hb : ¬ (0 ≤ lo ∧ lo < hi ∧ hi ≤ (D2.safe.length : Int)) ∨ q < 0 ∨ 1152921504606846976 < q
    · refine Open_bad (k := 0) h rfl hb ?_
      simp only [nn_some, add_mk, Nat.zero_add, Nat.add_zero, Nat.reduceAdd, Nat.reduceMul, Option.isNone_some, Option.isNone_none, br_true, br_false, Bool.not_true, Bool.not_false, xI_eq, xB_eq, xS_eq, xP_eq, xL_eq, x0_eq, x2_eq, x3_eq, chk_eq, true_and, and_true, List.set_cons_zero, List.set_cons_succ, List.eraseIdx_cons_zero, List.eraseIdx_cons_succ]
      have tell : ∀ w, St W w (disk d D2 :: L) → bondstorelaw06_JournalRaw.j1 K 1 none 0 false (some ⟨d, 0, none⟩) lo none 0 q hi true w := fun w h => by
        unfold bondstorelaw06_JournalRaw.j1 bondstorelaw06_JournalRaw.j2
        simp only [nn_some, add_mk, Nat.zero_add, Nat.add_zero, Nat.reduceAdd, Nat.reduceMul, Option.isNone_some, Option.isNone_none, br_true, br_false, Bool.not_true, Bool.not_false, xI_eq, xB_eq, xS_eq, xP_eq, xL_eq, x0_eq, x2_eq, x3_eq, chk_eq, true_and, and_true, List.set_cons_zero, List.set_cons_succ, List.eraseIdx_cons_zero, List.eraseIdx_cons_succ]
        have e1 : ((1 : Int) == 1) = true := rfl
        have e0 : ((((0 : Nat) : Int)) == 0) = true := rfl
        rw [e1, e0]
        simp only [nn_some, add_mk, Nat.zero_add, Nat.add_zero, Nat.reduceAdd, Nat.reduceMul, Option.isNone_some, Option.isNone_none, br_true, br_false, Bool.not_true, Bool.not_false, xI_eq, xB_eq, xS_eq, xP_eq, xL_eq, x0_eq, x2_eq, x3_eq, chk_eq, true_and, and_true, List.set_cons_zero, List.set_cons_succ, List.eraseIdx_cons_zero, List.eraseIdx_cons_succ]
        exact hK _ h.drop
      refine br_dec (fun _ => tell _ h) (fun h1 => ?_)
      refine br_dec (fun _ => tell _ h) (fun h2 => ?_)
      refine br_dec (fun _ => tell _ h) (fun h3 => ?_)
      refine br_dec (fun _ => tell _ h) (fun h4 => ?_)
      have : decide (q > 1152921504606846976) = true := decide_eq_true (by omega)
      rw [this]; exact tell _ h
    · have hp : 0 ≤ lo ∧ lo < hi ∧ hi ≤ 12 := by omega
      have hq : 0 ≤ q ∧ q ≤ 1152921504606846976 := by omega
      refine Open_spec (k := 0) h rfl hok2 ⟨hp.1, hp.2.1, by omega⟩ hq fun r bb cc w hres h => ?_
      have hch := open_chain (D := D2) (to := hi) (hi - lo).toNat (a := lo) (q := q)
      have hch : Chain D2 hi lo q (openJ D2 hi lo q).1 (openJ D2 hi lo q).2.1 := hch
      generalize openJ D2 hi lo q = R at *
      obtain ⟨recs, e, q'⟩ := R
      obtain ⟨m, hm, hl, hq', _, _⟩ := hres
      dsimp only at h hl hq' hch ⊢
      subst hl
      subst hq'
      simp only [nn_some, add_mk, Nat.zero_add, Nat.add_zero, Nat.reduceAdd, Nat.reduceMul, Option.isNone_some, Option.isNone_none, br_true, br_false, Bool.not_true, Bool.not_false, xI_eq, xB_eq, xS_eq, xP_eq, xL_eq, x0_eq, x2_eq, x3_eq, chk_eq, true_and, and_true, List.set_cons_zero, List.set_cons_succ, List.eraseIdx_cons_zero, List.eraseIdx_cons_succ]
      refine br_dec (fun hh => by omega) (fun _ => ?_)
      refine br_dec (fun hh => by omega) (fun _ => ?_)
      refine br_dec (fun hh => by omega) (fun _ => ?_)
      refine br_dec (fun hh => by omega) (fun _ => ?_)
      have e0 : decide (q > 1152921504606846976) = false := decide_eq_false (by omega)
      rw [e0]
      unfold bondstorelaw06_JournalRaw.j1
      simp only [nn_some, add_mk, Nat.zero_add, Nat.add_zero, Nat.reduceAdd, Nat.reduceMul, Option.isNone_some, Option.isNone_none, br_true, br_false, Bool.not_true, Bool.not_false, xI_eq, xB_eq, xS_eq, xP_eq, xL_eq, x0_eq, x2_eq, x3_eq, chk_eq, true_and, and_true, List.set_cons_zero, List.set_cons_succ, List.eraseIdx_cons_zero, List.eraseIdx_cons_succ]
      rw [bne_self_eq_false]
      simp only [nn_some, add_mk, Nat.zero_add, Nat.add_zero, Nat.reduceAdd, Nat.reduceMul, Option.isNone_some, Option.isNone_none, br_true, br_false, Bool.not_true, Bool.not_false, xI_eq, xB_eq, xS_eq, xP_eq, xL_eq, x0_eq, x2_eq, x3_eq, chk_eq, true_and, and_true, List.set_cons_zero, List.set_cons_succ, List.eraseIdx_cons_zero, List.eraseIdx_cons_succ]
      refine Seq_spec (k := 1) h rfl ?_
      simp only [nn_some, add_mk, Nat.zero_add, Nat.add_zero, Nat.reduceAdd, Nat.reduceMul, Option.isNone_some, Option.isNone_none, br_true, br_false, Bool.not_true, Bool.not_false, xI_eq, xB_eq, xS_eq, xP_eq, xL_eq, x0_eq, x2_eq, x3_eq, chk_eq, true_and, and_true, List.set_cons_zero, List.set_cons_succ, List.eraseIdx_cons_zero, List.eraseIdx_cons_succ]
      have ew : IntKind.i64.wrap (q + (recs.length : Int)) = q + (recs.length : Int) := wrap_id (by omega)
      rw [ew, bne_self_eq_false]
      exact Raw_j3 recs e h hok2 hlen2 hp hq hm hch hK

theorem Raw6_ok {a0 : Option Addr} {n0 c0 : Nat} {x0 : List Value} {a1 a2 a3 : Int} (ro0 : Ro W a0 n0 1 x0) (el0 : Elems [.s] n0 x0) (mx0 : n0 ≤ maxLen) (_ : (Lit.int .i64 a1).wf = true) (_ : (Lit.int .i64 a2).wf = true) (_ : (Lit.int .i64 a3).wf = true) :
    bondstorelaw06_JournalRaw.u [.slice a0 n0 c0, .int .i64 a1, .int .i64 a2, .int .i64 a3] (fun v w' => v = .bool true ∧ Below W.heap.size W w') W := by
  obtain ⟨ss, h1, h2, h3⟩ := elems_str el0 ro0.1
  subst h2
  unfold bondstorelaw06_JournalRaw.u
  exact Raw6_spec (K := fun v w' => v = .bool true ∧ Below W.heap.size W w') (St.start W) ro0 h1 mx0 (fun w' h => ⟨rfl, h.below⟩)
end
end Go.Sep
