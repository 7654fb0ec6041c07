/- The law JournalRoom. -/
import Derived.Test.YtidhimamegfdaaaDoorJoA
namespace Go.Sep
open Go.Den Go.RowKit Go.Prog Go.Plat
set_option linter.unusedSimpArgs false
set_option linter.unusedVariables false

section
variable {W w : World} {L : List HP}

theorem str_ro {b : Option Addr} {n : Nat} {ss : List ByteArray} {j : Nat} {X : ByteArray → WK} (h : St W w L) (hr : Ro W b n 1 (ss.map .string)) (hj : j < ss.length) (hn : j < n) (hK : X ss[j] w) : ixs b n j 1 (fun a => ld a (xS X)) w := by
  refine ixs_ro hr ⟨by omega, by omega⟩ fun a ha => ?_
  rw [Int.toNat_natCast, Nat.mul_one]
  refine ld_ro h hr ha (v := .string ss[j]) (by rw [List.getElem?_map]; simp [hj]) ?_
  simp only [nn_some, add_mk, Nat.zero_add, Nat.add_zero, Nat.reduceAdd, Nat.reduceMul, Option.isNone_some, Option.isNone_none, br_true, br_false, Bool.not_true, Bool.not_false, xI_eq, xB_eq, xS_eq, xP_eq, xL_eq, x0_eq, x2_eq, x3_eq, chk_eq, true_and, and_true, List.set_cons_zero, List.set_cons_succ, List.eraseIdx_cons_zero, List.eraseIdx_cons_succ]
  exact hK

theorem Room6_spec {b : Option Addr} {n c : Nat} {ss : List ByteArray} {lo hi : Int} {K : VK} (h : St W w L) (hr : Ro W b n 1 (ss.map .string)) (hn : ss.length = n) (hmx : n ≤ maxLen) (hsz : ∀ s ∈ ss, s.size ≤ reachBytes) (hK : ∀ w', St W w' L → K (.bool true) w') : bondstorelaw06_JournalRoom b n c lo hi K w := by
  unfold maxLen at hmx
  unfold bondstorelaw06_JournalRoom
  refine alive6_spec h fun w h => ?_
  simp only [nn_some, add_mk, Nat.zero_add, Nat.add_zero, Nat.reduceAdd, Nat.reduceMul, Option.isNone_some, Option.isNone_none, br_true, br_false, Bool.not_true, Bool.not_false, xI_eq, xB_eq, xS_eq, xP_eq, xL_eq, x0_eq, x2_eq, x3_eq, chk_eq, true_and, and_true, List.set_cons_zero, List.set_cons_succ, List.eraseIdx_cons_zero, List.eraseIdx_cons_succ]
  refine ⟨fun us w' => ∃ (j : Nat) (x : Int), us = [.bool false, .int .i64 x, .slice b n c, .int .i64 n, .int .i64 j] ∧ j ≤ n ∧ St W w' L,
    fun us _ => match us with | [_, _, _, _, .int _ j] => n - j.toNat | _ => 0, ⟨0, 0, rfl, Nat.zero_le _, h⟩, ?_⟩
  rintro b2 n3 sb2 sn2 sc2 n4 n5 w2 ⟨j, x, he, hj, h⟩
  cases he
  have go : ∀ f, (f = false → n ≤ 20 ∧ 0 ≤ lo ∧ lo < hi ∧ hi ≤ 30) → bondstorelaw06_JournalRoom.j1 K lo hi false b n c f w2 := fun f hf => by
    unfold bondstorelaw06_JournalRoom.j1
    refine br_of (fun _ => hK _ h) (fun hff => ?_)
    obtain ⟨h20, hl0, hlh, hh30⟩ := hf hff
    refine New_spec h fun d w h => ?_
    simp only [nn_some, add_mk, Nat.zero_add, Nat.add_zero, Nat.reduceAdd, Nat.reduceMul, Option.isNone_some, Option.isNone_none, br_true, br_false, Bool.not_true, Bool.not_false, xI_eq, xB_eq, xS_eq, xP_eq, xL_eq, x0_eq, x2_eq, x3_eq, chk_eq, true_and, and_true, List.set_cons_zero, List.set_cons_succ, List.eraseIdx_cons_zero, List.eraseIdx_cons_succ]
    have hc := calm_new (n := 30) (by decide)
    have hlen : (Disk.new 30).safe.length = 30 := hc.len
    refine Open_new (n := 30) (k := 0) h rfl (by decide) ⟨hl0, hlh, hh30⟩ fun r bb cc w h => ?_
    simp only [nn_some, add_mk, Nat.zero_add, Nat.add_zero, Nat.reduceAdd, Nat.reduceMul, Option.isNone_some, Option.isNone_none, br_true, br_false, Bool.not_true, Bool.not_false, xI_eq, xB_eq, xS_eq, xP_eq, xL_eq, x0_eq, x2_eq, x3_eq, chk_eq, true_and, and_true, List.set_cons_zero, List.set_cons_succ, List.eraseIdx_cons_zero, List.eraseIdx_cons_succ]
    have hJ0 : (⟨lo, hi, lo, 0, false⟩ : PJ).Ok (Disk.new 30) := ⟨hl0, Int.le_refl _, by show lo ≤ hi; omega, by show hi ≤ _; rw [hlen]; exact hh30, by show 0 ≤ (0 : Int) ∧ (0 : Int) ≤ _; omega⟩
    refine ⟨fun us w' => ∃ (j : Nat) (D : Disk) (J : PJ), us = [.bool false, .pointer (some ⟨d, 0, none⟩), .pointer (some ⟨r, 0, none⟩), .slice b n c, .int .i64 n, .int .i64 j] ∧ j ≤ n ∧ Calm 30 D ∧ D.later = [] ∧ J.Ok D ∧ J.sick = false ∧ J.lo = lo ∧ J.hi = hi ∧ J.seq ≤ j ∧
        (∀ i : Int, 0 ≤ i → i < 30 → (i < lo ∨ hi ≤ i) → (D.read i).1 = zeros 128) ∧ St W w' (own bb 0 cc 1 (([] : List (List UInt8)).map recV) :: pt r (jCells d J) :: disk d D :: L),
      fun us _ => match us with | [_, _, _, _, _, .int _ j] => n - j.toNat | _ => 0, ⟨0, Disk.new 30, _, rfl, Nat.zero_le _, hc, rfl, hJ0, rfl, rfl, rfl, Int.le_refl _, fun i h1 h2 _ => new_zeros (n := 30) (by decide) h1 (by omega), h⟩, ?_⟩
    rintro b4 p3 p4 sb4 sn4 sc4 n7 n8 w2 ⟨j, D, J, he, hj, hc, hlat, hJ, hsk, rfl, rfl, hsq, hout, h⟩
    cases he
    refine br_dec (fun hlt => ?_) (fun hge => ?_)
    · have hlt2 : j < ss.length := by omega
      have e5 : IntKind.i64.wrap ((j : Int) + 1) = ((j + 1 : Nat) : Int) := by rw [wrap_id (by omega)]; omega
      refine str_ro h hr hlt2 (by omega) ?_
      have hs := hsz ss[j] (List.getElem_mem hlt2)
      generalize ss[j] = s at *
      refine jRoom_spec (k := 1) h rfl hJ hc.ok fun w h => ?_
      simp only [nn_some, add_mk, Nat.zero_add, Nat.add_zero, Nat.reduceAdd, Nat.reduceMul, Option.isNone_some, Option.isNone_none, br_true, br_false, Bool.not_true, Bool.not_false, xI_eq, xB_eq, xS_eq, xP_eq, xL_eq, x0_eq, x2_eq, x3_eq, chk_eq, true_and, and_true, List.set_cons_zero, List.set_cons_succ, List.eraseIdx_cons_zero, List.eraseIdx_cons_succ]
      rw [e5]
      refine jAdd_spec (k := 1) (k2 := 2) h rfl rfl (by decide) hJ hc.ok (by have := hc.later; omega) hs fun w h => ?_
      by_cases hrm : room J s.size
      · obtain ⟨D', hA, hc', hlat', hok', hlv, hrest, hnx⟩ := add_calm (n := 30) (number := ((j + 1 : Nat) : Int)) hc (by decide) hJ hsk (by omega) (by omega) hrm
        rw [hA] at h ⊢
        rw [decide_eq_true hrm]
        simp only [nn_some, add_mk, Nat.zero_add, Nat.add_zero, Nat.reduceAdd, Nat.reduceMul, Option.isNone_some, Option.isNone_none, br_true, br_false, Bool.not_true, Bool.not_false, xI_eq, xB_eq, xS_eq, xP_eq, xL_eq, x0_eq, x2_eq, x3_eq, chk_eq, true_and, and_true, List.set_cons_zero, List.set_cons_succ, List.eraseIdx_cons_zero, List.eraseIdx_cons_succ] at h ⊢
        have e0 : (((0 : Int) == 0) == true) = true := rfl
        rw [e0]
        simp only [nn_some, add_mk, Nat.zero_add, Nat.add_zero, Nat.reduceAdd, Nat.reduceMul, Option.isNone_some, Option.isNone_none, br_true, br_false, Bool.not_true, Bool.not_false, xI_eq, xB_eq, xS_eq, xP_eq, xL_eq, x0_eq, x2_eq, x3_eq, chk_eq, true_and, and_true, List.set_cons_zero, List.set_cons_succ, List.eraseIdx_cons_zero, List.eraseIdx_cons_succ]
        have a1 : J.lo ≤ J.at' := hJ.at1
        have a2 : J.at' + (cnt (12 + s.size) : Int) ≤ J.hi := hok'.at2
        refine ⟨⟨j + 1, D', J.more s, rfl, by omega, hc', hlat', hok', hsk, rfl, rfl, by show J.seq + 1 ≤ _; omega, fun i h1 h2 h3 => ?_, h⟩, by omega⟩
        rw [hrest i h1 (by omega) (by omega)]
        exact hout i h1 h2 h3
      · rw [add_full hsk (by omega) hrm] at h ⊢
        rw [decide_eq_false hrm]
        simp only [nn_some, add_mk, Nat.zero_add, Nat.add_zero, Nat.reduceAdd, Nat.reduceMul, Option.isNone_some, Option.isNone_none, br_true, br_false, Bool.not_true, Bool.not_false, xI_eq, xB_eq, xS_eq, xP_eq, xL_eq, x0_eq, x2_eq, x3_eq, chk_eq, true_and, and_true, List.set_cons_zero, List.set_cons_succ, List.eraseIdx_cons_zero, List.eraseIdx_cons_succ] at h ⊢
        have e0 : (((6 : Int) == 0) == false) = true := rfl
        rw [e0, bne_self_eq_false]
        simp only [nn_some, add_mk, Nat.zero_add, Nat.add_zero, Nat.reduceAdd, Nat.reduceMul, Option.isNone_some, Option.isNone_none, br_true, br_false, Bool.not_true, Bool.not_false, xI_eq, xB_eq, xS_eq, xP_eq, xL_eq, x0_eq, x2_eq, x3_eq, chk_eq, true_and, and_true, List.set_cons_zero, List.set_cons_succ, List.eraseIdx_cons_zero, List.eraseIdx_cons_succ]
        exact ⟨⟨j + 1, D, J, rfl, by omega, hc, hlat, hJ, hsk, rfl, rfl, by omega, hout, h⟩, by omega⟩
    · have hlen := hc.len
      refine ⟨fun us w' => ∃ (i : Nat), us = [.bool false, .pointer (some ⟨d, 0, none⟩), .pointer (some ⟨r, 0, none⟩), .int .i64 i] ∧ i ≤ 30 ∧ St W w' (own bb 0 cc 1 (([] : List (List UInt8)).map recV) :: pt r (jCells d J) :: disk d D :: L),
        fun us _ => match us with | [_, _, _, .int _ i] => 30 - i.toNat | _ => 0, ⟨0, rfl, Nat.zero_le _, h⟩, ?_⟩
      rintro b6 p5 p6 n10 w9 ⟨i, he, hi30, h⟩
      cases he
      refine br_dec (fun hlt => ?_) (fun hge => ?_)
      · have e5 : IntKind.i64.wrap ((i : Int) + 1) = ((i + 1 : Nat) : Int) := by rw [wrap_id (by omega)]; omega
        refine Disk_Read_spec (k := 2) h rfl hc.ok ?_
        simp only [nn_some, add_mk, Nat.zero_add, Nat.add_zero, Nat.reduceAdd, Nat.reduceMul, Option.isNone_some, Option.isNone_none, br_true, br_false, Bool.not_true, Bool.not_false, xI_eq, xB_eq, xS_eq, xP_eq, xL_eq, x0_eq, x2_eq, x3_eq, chk_eq, true_and, and_true, List.set_cons_zero, List.set_cons_succ, List.eraseIdx_cons_zero, List.eraseIdx_cons_succ]
        have hsz := read_size hc.ok (i := (i : Int)) ⟨by omega, by omega⟩
        have hz := hout i (by omega) (by omega)
        generalize (D.read (i : Int)).1 = X at *
        rw [show X = bs X.data.toList from rfl]
        refine Read_spec h (by rw [toList_length]; omega) fun w h => ?_
        rw [e5]
        cases hv : readV X.data.toList with
        | none =>
          unfold readRes
          simp only [nn_some, add_mk, Nat.zero_add, Nat.add_zero, Nat.reduceAdd, Nat.reduceMul, Option.isNone_some, Option.isNone_none, br_true, br_false, Bool.not_true, Bool.not_false, xI_eq, xB_eq, xS_eq, xP_eq, xL_eq, x0_eq, x2_eq, x3_eq, chk_eq, true_and, and_true, List.set_cons_zero, List.set_cons_succ, List.eraseIdx_cons_zero, List.eraseIdx_cons_succ]
          simp only [xA_eq, List.length_cons, List.length_nil, Nat.zero_add, Nat.reduceAdd, true_and]
          simp only [nn_some, add_mk, Nat.zero_add, Nat.add_zero, Nat.reduceAdd, Nat.reduceMul, Option.isNone_some, Option.isNone_none, br_true, br_false, Bool.not_true, Bool.not_false, xI_eq, xB_eq, xS_eq, xP_eq, xL_eq, x0_eq, x2_eq, x3_eq, chk_eq, true_and, and_true, List.set_cons_zero, List.set_cons_succ, List.eraseIdx_cons_zero, List.eraseIdx_cons_succ]
          refine mk_of h fun r1 w h => ?_
          refine ⟨trivial, stN_pt (k := 0) h rfl (Nat.le_of_ble_eq_true rfl) (by simp [Value.oneCell']) fun w h => ?_⟩
          simp only [nn_some, add_mk, Nat.zero_add, Nat.add_zero, Nat.reduceAdd, Nat.reduceMul, Option.isNone_some, Option.isNone_none, br_true, br_false, Bool.not_true, Bool.not_false, xI_eq, xB_eq, xS_eq, xP_eq, xL_eq, x0_eq, x2_eq, x3_eq, chk_eq, true_and, and_true, List.set_cons_zero, List.set_cons_succ, List.eraseIdx_cons_zero, List.eraseIdx_cons_succ] at h
          exact ⟨⟨i + 1, rfl, by omega, h.drop⟩, by omega⟩
        | some y =>
          obtain ⟨m, q, dd⟩ := y
          have hin : J.lo ≤ (i : Int) ∧ (i : Int) < J.hi := by
            by_cases hh : J.lo ≤ (i : Int) ∧ (i : Int) < J.hi
            · exact hh
            · have := hz (by omega)
              rw [this, readV_zeros] at hv
              cases hv
          unfold readRes
          simp only [nn_some, add_mk, Nat.zero_add, Nat.add_zero, Nat.reduceAdd, Nat.reduceMul, Option.isNone_some, Option.isNone_none, br_true, br_false, Bool.not_true, Bool.not_false, xI_eq, xB_eq, xS_eq, xP_eq, xL_eq, x0_eq, x2_eq, x3_eq, chk_eq, true_and, and_true, List.set_cons_zero, List.set_cons_succ, List.eraseIdx_cons_zero, List.eraseIdx_cons_succ]
          simp only [xA_eq, List.length_cons, List.length_nil, Nat.zero_add, Nat.reduceAdd, true_and]
          simp only [nn_some, add_mk, Nat.zero_add, Nat.add_zero, Nat.reduceAdd, Nat.reduceMul, Option.isNone_some, Option.isNone_none, br_true, br_false, Bool.not_true, Bool.not_false, xI_eq, xB_eq, xS_eq, xP_eq, xL_eq, x0_eq, x2_eq, x3_eq, chk_eq, true_and, and_true, List.set_cons_zero, List.set_cons_succ, List.eraseIdx_cons_zero, List.eraseIdx_cons_succ]
          refine mk_of h fun r1 w h => ?_
          refine ⟨trivial, stN_pt (k := 0) h rfl (Nat.le_of_ble_eq_true rfl) (by simp [Value.oneCell']) fun w h => ?_⟩
          simp only [nn_some, add_mk, Nat.zero_add, Nat.add_zero, Nat.reduceAdd, Nat.reduceMul, Option.isNone_some, Option.isNone_none, br_true, br_false, Bool.not_true, Bool.not_false, xI_eq, xB_eq, xS_eq, xP_eq, xL_eq, x0_eq, x2_eq, x3_eq, chk_eq, true_and, and_true, List.set_cons_zero, List.set_cons_succ, List.eraseIdx_cons_zero, List.eraseIdx_cons_succ] at h
          refine br_dec (fun hh => by omega) (fun _ => ?_)
          refine br_dec (fun hh => by omega) (fun _ => ?_)
          exact ⟨⟨i + 1, rfl, by omega, h.drop⟩, by omega⟩
      · refine At_spec6 (k := 1) h rfl ?_
        simp only [nn_some, add_mk, Nat.zero_add, Nat.add_zero, Nat.reduceAdd, Nat.reduceMul, Option.isNone_some, Option.isNone_none, br_true, br_false, Bool.not_true, Bool.not_false, xI_eq, xB_eq, xS_eq, xP_eq, xL_eq, x0_eq, x2_eq, x3_eq, chk_eq, true_and, and_true, List.set_cons_zero, List.set_cons_succ, List.eraseIdx_cons_zero, List.eraseIdx_cons_succ]
        have a2 := hJ.at2
        refine br_dec (fun _ => ?_) (fun hh => by omega)
        refine Sick_spec (k := 1) h rfl ?_
        simp only [nn_some, add_mk, Nat.zero_add, Nat.add_zero, Nat.reduceAdd, Nat.reduceMul, Option.isNone_some, Option.isNone_none, br_true, br_false, Bool.not_true, Bool.not_false, xI_eq, xB_eq, xS_eq, xP_eq, xL_eq, x0_eq, x2_eq, x3_eq, chk_eq, true_and, and_true, List.set_cons_zero, List.set_cons_succ, List.eraseIdx_cons_zero, List.eraseIdx_cons_succ]
        rw [hsk]
        exact hK _ h.drop.drop.drop
  refine br_dec (fun hlt => ?_) (fun hge => ?_)
  · have hlt2 : j < ss.length := by omega
    have e5 : IntKind.i64.wrap ((j : Int) + 1) = ((j + 1 : Nat) : Int) := by rw [wrap_id (by omega)]; omega
    refine str_ro h hr hlt2 (by omega) ?_
    rw [e5]
    exact ⟨⟨j + 1, _, rfl, by omega, h⟩, by dsimp only; omega⟩
  · refine br_dec (fun h1 => go _ (fun hf => by cases hf)) (fun h1 => ?_)
    refine br_dec (fun h1 => go _ (fun hf => by cases hf)) (fun h2 => ?_)
    refine br_dec (fun h1 => go _ (fun hf => by cases hf)) (fun h3 => ?_)
    refine br_dec (fun h1 => go _ (fun hf => by cases hf)) (fun h4 => ?_)
    exact go _ (fun hf => ⟨by omega, by omega, by omega, by have := of_decide_eq_false hf; omega⟩)

theorem Room6_ok {a0 : Option Addr} {n0 c0 : Nat} {x0 : List Value} {a1 a2 : Int} (ro0 : Ro W a0 n0 1 x0) (el0 : Elems [.s] n0 x0) (mx0 : n0 ≤ maxLen) (_ : (Lit.int .i64 a1).wf = true) (_ : (Lit.int .i64 a2).wf = true) :
    bondstorelaw06_JournalRoom.u [.slice a0 n0 c0, .int .i64 a1, .int .i64 a2] (fun v w' => v = .bool true ∧ Below W.heap.size W w') W := by
  obtain ⟨ss, h1, h2, h3⟩ := elems_str el0 ro0.1
  subst h2
  unfold bondstorelaw06_JournalRoom.u
  exact Room6_spec (K := fun v w' => v = .bool true ∧ Below W.heap.size W w') (St.start W) ro0 h1 mx0 h3 (fun w' h => ⟨rfl, h.below⟩)
end
end Go.Sep
