/- The law CrownPuts. -/
import Derived.Test.YtidhimamegfdaaaDoorCrCrash
import Derived.Test.YtidhimamegfdaaaDoorLaA
namespace Go.Sep
open Go.Den Go.RowKit Go.Prog Go.Plat
set_option linter.unusedSimpArgs false
set_option linter.unusedVariables false

/-- The last heads at both places. -/
def upd (a : PHead × PHead) (h : PHead) : PHead × PHead := if low h.turn = 0 then (h, a.2) else (a.1, h)
def lastH (hs : List PHead) : PHead × PHead := hs.foldl upd (zeroH, zeroH)
def tellL (a : PHead × PHead) : PHead × Bool := if a.2.turn > a.1.turn then (a.2, true) else (a.1, decide (a.1.turn > 0))
def optH (h : PHead) : Option PHead := if 1 ≤ h.turn then some h else none
def Fair (h : PHead) : Prop := h = zeroH ∨ HGood h

theorem fair_upd {a : PHead × PHead} {h : PHead} (h1 : Fair a.1) (h2 : Fair a.2) (hg : HGood h) : Fair (upd a h).1 ∧ Fair (upd a h).2 := by
  unfold upd
  split
  · exact ⟨.inr hg, h2⟩
  · exact ⟨h1, .inr hg⟩

theorem fair_last : ∀ (hs : List PHead) (a : PHead × PHead), Fair a.1 → Fair a.2 → (∀ h ∈ hs, HGood h) → Fair (hs.foldl upd a).1 ∧ Fair (hs.foldl upd a).2
  | [], a, h1, h2, _ => ⟨h1, h2⟩
  | h :: hs, a, h1, h2, hg => by
    obtain ⟨f1, f2⟩ := fair_upd h1 h2 (hg h List.mem_cons_self)
    exact fair_last hs _ f1 f2 (fun x hx => hg x (List.mem_cons_of_mem _ hx))

theorem tell_newest {a : PHead × PHead} (h1 : Fair a.1) (h2 : Fair a.2) : hdOf (newestH (optH a.1) (optH a.2)) = (tellL a).1 ∧ (newestH (optH a.1) (optH a.2)).isSome = (tellL a).2 := by
  obtain ⟨x, y⟩ := a
  dsimp only at h1 h2 ⊢
  unfold tellL
  dsimp only
  rcases h1 with rfl | g1 <;> rcases h2 with rfl | g2
  · exact ⟨rfl, rfl⟩
  · have t1 := g2.1
    have e1 : optH y = some y := if_pos t1
    rw [e1, if_pos (show y.turn > zeroH.turn from by show 0 < y.turn; omega)]
    exact ⟨rfl, rfl⟩
  · have t1 := g1.1
    have e1 : optH x = some x := if_pos t1
    rw [e1, if_neg (show ¬ zeroH.turn > x.turn from by show ¬ x.turn < 0; omega), decide_eq_true (by omega)]
    exact ⟨rfl, rfl⟩
  · have t1 := g1.1
    have t2 := g2.1
    have e1 : optH x = some x := if_pos t1
    have e2 : optH y = some y := if_pos t2
    rw [e1, e2]
    show hdOf (if x.turn < y.turn then some y else some x) = _ ∧ (if x.turn < y.turn then some y else some x : Option PHead).isSome = _
    by_cases hlt : x.turn < y.turn
    · rw [if_pos hlt, if_pos hlt]; exact ⟨rfl, rfl⟩
    · rw [if_neg hlt, if_neg hlt, decide_eq_true (by omega)]; exact ⟨rfl, rfl⟩

theorem atH_congr {D D' : Disk} {i : Nat} (h1 : i < D.safe.length) (h2 : i < D'.safe.length) (h : (D'.read (i : Int)).1 = (D.read (i : Int)).1) : atH D' i = atH D i := by
  have e : D'.read (i : Int) = D.read (i : Int) := by
    have a := read_code h1
    have b := read_code h2
    exact Prod.ext h (by rw [a, b])
  unfold atH
  rw [e]

/-- What the disk tells are the last heads. -/
structure TellsD (D : Disk) (hs : List PHead) : Prop where
  calm : Calm 4 D
  a0 : atH D 0 = optH (lastH hs).1
  a1 : atH D 1 = optH (lastH hs).2

theorem tells_put {D : Disk} {hs : List PHead} {n : Int} {h : PHead} (ht : TellsD D hs) (hn : 1 ≤ n ∧ n ≤ 1152921504606846976) (hg : HGood h) : (cput D n h).2 = 0 ∧ TellsD (cput D n h).1 (hs ++ [h]) := by
  have hl := low_in h.turn
  obtain ⟨a, ha⟩ := Int.eq_ofNat_of_zero_le (show 0 ≤ low h.turn by omega)
  obtain ⟨p1, p2, p3, p5⟩ := cput_calm (n := n) (a := a) ht.calm hn hg ha.symm
  have hcode : (cput D n h).2 = 0 := by
    obtain ⟨a', ha', ha2, e⟩ := cput_eq (D := D) (number := n) hg
    rw [e]
    exact (ls_fits (n := 4) (a := a') (t := a' + 1) (number := n) (s := bs (headL h)) ht.calm (by decide) hn (by rw [cnt_head]; omega) (by omega)).1
  have hl4 := ht.calm.len
  have hl4' := p1.len
  have hrd : (cput D n h).1.read (a : Int) = (leaf n 0 (bs (headL h)), 0) := by
    have := read_code (D := (cput D n h).1) (i := a) (by omega)
    rw [← p2, ← this]
  have hat := atH_leaf hn hg ha.symm hrd
  have hop : optH h = some h := if_pos hg.1
  refine ⟨hcode, p1, ?_, ?_⟩
  · unfold lastH
    rw [List.foldl_append]
    show atH _ 0 = optH (upd (lastH hs) h).1
    unfold upd
    by_cases h0 : low h.turn = 0
    · rw [if_pos h0]
      have : a = 0 := by omega
      subst this
      rw [hat, hop]
    · rw [if_neg h0, ← ht.a0]
      exact atH_congr (by omega) (by omega) (p3 0 (by omega) (by omega))
  · unfold lastH
    rw [List.foldl_append]
    show atH _ 1 = optH (upd (lastH hs) h).2
    unfold upd
    by_cases h0 : low h.turn = 0
    · rw [if_pos h0, ← ht.a1]
      exact atH_congr (by omega) (by omega) (p3 1 (by omega) (by omega))
    · rw [if_neg h0]
      have : a = 1 := by omega
      subst this
      rw [hat, hop]

theorem heads_get {hs : List PHead} {j : Nat} {h : PHead} (he : hs[j]? = some h) : ∀ i v, (headCells h)[i]? = some v → (hs.flatMap headCells)[j * 4 + i]? = some v := by
  induction hs generalizing j with
  | nil => simp at he
  | cons d cs ih =>
    intro i v hv
    cases j with
    | zero =>
      simp at he; subst he
      rw [List.flatMap_cons, Nat.zero_mul, Nat.zero_add, List.getElem?_append_left]
      · exact hv
      · exact (List.getElem?_eq_some_iff.1 hv).1
    | succ j =>
      simp only [List.getElem?_cons_succ] at he
      rw [List.flatMap_cons, List.getElem?_append_right (by simp [headCells]; omega), ← ih he i v hv]
      congr 1
      simp [headCells]; omega

theorem headCells_one (h : PHead) : ∀ v ∈ headCells h, v.oneCell' = true := by simp [headCells, Value.oneCell']

theorem elems_heads {n : Nat} {xs : List Value} (he : Elems [.i .i64, .i .i64, .i .i64, .i .i64] n xs) (hl : xs.length = n * 4) : ∃ hs : List PHead, hs.length = n ∧ xs = hs.flatMap headCells ∧ ∀ h ∈ hs, True :=
  elems_list headCells (fun _ => True) (fun _ => rfl) (fun o ht => by
    obtain ⟨v0, g0, a0, rfl, h0⟩ := ht 0 _ rfl
    obtain ⟨v1, g1, a1, rfl, h1⟩ := ht 1 _ rfl
    obtain ⟨v2, g2, a2, rfl, h2⟩ := ht 2 _ rfl
    obtain ⟨v3, g3, a3, rfl, h3⟩ := ht 3 _ rfl
    refine ⟨⟨a0, a1, a2, a3⟩, trivial, fun j hj => ?_⟩
    match j, hj with
    | 0, _ => exact g0
    | 1, _ => exact g1
    | 2, _ => exact g2
    | 3, _ => exact g3) he hl

section
variable {W w : World} {L : List HP} {k : Nat}

theorem newest_spec {b : Option Addr} {n c : Nat} {hs : List PHead} {K : VK} (h : St W w L) (hk : L[k]? = some (own b n c 4 (hs.flatMap headCells))) (hn : hs.length = n) (hmx : n ≤ maxLen) (hg : ∀ x ∈ hs, HGood x)
    (hK : ∀ w', St W w' L → K (.tuple ⟨[.agg ⟨headCells (tellL (lastH hs)).1⟩, .bool (tellL (lastH hs)).2]⟩) w') : bondstorelaw08_newest b n c K w := by
  unfold maxLen at hmx
  unfold bondstorelaw08_newest
  refine mk_of h fun r1 w h => ?_
  refine ⟨trivial, ?_⟩
  refine mk_of h fun r2 w h => ?_
  refine ⟨rfl, stN_pt (k := 0) h rfl (Nat.le_of_ble_eq_true rfl) (by simp [Value.oneCell']) fun w h => ?_⟩
  rw [over_all (by simp)] at h
  simp only [nn_some, add_mk, Nat.zero_add, Nat.add_zero, Nat.reduceAdd, Nat.reduceMul, Option.isNone_some, Option.isNone_none, br_true, br_false, Bool.not_true, Bool.not_false, xI_eq, xB_eq, xS_eq, xP_eq, xL_eq, x0_eq, x2_eq, x3_eq, chk_eq, true_and, and_true, List.set_cons_zero, List.set_cons_succ, List.eraseIdx_cons_zero, List.eraseIdx_cons_succ] at h
  refine ⟨fun us w' => ∃ j : Nat, us = [.pointer (some ⟨r1, 0, none⟩), .bool false, .pointer (some ⟨r2, 0, none⟩), .slice b n c, .int .i64 n, .int .i64 j] ∧ j ≤ n ∧ St W w' (pt r2 (headCells (lastH (hs.take j)).1 ++ headCells (lastH (hs.take j)).2) :: pt r1 [.int .i64 0, .int .i64 0, .int .i64 0, .int .i64 0] :: L),
    fun us _ => match us with | [_, _, _, _, _, .int _ j] => n - j.toNat | _ => 0, ⟨0, rfl, Nat.zero_le _, h⟩, ?_⟩
  rintro a1 b1 a2 sb2 sn2 sc2 n1 n2 w2 ⟨j, he, hj, h⟩
  cases he
  refine br_dec (fun hlt => ?_) (fun hge => ?_)
  · have hlt2 : j < hs.length := by omega
    have hget : hs[j]? = some hs[j] := by simp [hlt2]
    have hgj := hg _ (List.getElem_mem hlt2)
    have hk2 : ∀ A B : HP, (A :: B :: L)[k + 2]? = some (own b n c 4 (hs.flatMap headCells)) := fun A B => by rw [List.getElem?_cons_succ, List.getElem?_cons_succ]; exact hk
    refine ixs_own h (hk2 _ _) ⟨by omega, by omega⟩ fun r hr => ?_
    subst hr
    rw [Int.toNat_natCast]
    refine ldN_own (ys := headCells hs[j]) h (hk2 _ _) rfl (fun i v hi => heads_get hget i v hi) ?_
    refine mk_of h fun r3 w h => ?_
    refine ⟨rfl, stN_pt (k := 0) h rfl (Nat.le_of_ble_eq_true rfl) (headCells_one _) fun w h => ?_⟩
    rw [over_all (by simp [headCells])] at h
    simp only [nn_some, add_mk, Nat.zero_add, Nat.add_zero, Nat.reduceAdd, Nat.reduceMul, Option.isNone_some, Option.isNone_none, br_true, br_false, Bool.not_true, Bool.not_false, xI_eq, xB_eq, xS_eq, xP_eq, xL_eq, x0_eq, x2_eq, x3_eq, chk_eq, true_and, and_true, List.set_cons_zero, List.set_cons_succ, List.eraseIdx_cons_zero, List.eraseIdx_cons_succ] at h
    refine ld_pt (k := 0) h rfl (v := .int .i64 hs[j].turn) rfl ?_
    simp only [nn_some, add_mk, Nat.zero_add, Nat.add_zero, Nat.reduceAdd, Nat.reduceMul, Option.isNone_some, Option.isNone_none, br_true, br_false, Bool.not_true, Bool.not_false, xI_eq, xB_eq, xS_eq, xP_eq, xL_eq, x0_eq, x2_eq, x3_eq, chk_eq, true_and, and_true, List.set_cons_zero, List.set_cons_succ, List.eraseIdx_cons_zero, List.eraseIdx_cons_succ]
    refine ⟨by decide, ?_⟩
    refine ldN_pt (k := 0) (xs := headCells hs[j]) h rfl rfl (fun j v hj => by rw [Nat.zero_add]; exact hj) ?_
    have ht := low_nat' (n := hs[j].turn) (by have := hgj.1; have := hgj.2.1; omega)
    rw [← ht]
    have hl := low_in hs[j].turn
    refine ⟨by omega, rfl, ?_⟩
    have e5 : IntKind.i64.wrap ((j : Int) + 1) = ((j + 1 : Nat) : Int) := by rw [wrap_id (by omega)]; omega
    rw [e5]
    have htk : lastH (hs.take (j + 1)) = upd (lastH (hs.take j)) hs[j] := by
      unfold lastH
      rw [List.take_add_one, hget, List.foldl_append]; rfl
    rcases hl with h0 | h0
    · rw [h0]
      have hup : upd (lastH (hs.take j)) hs[j] = (hs[j], (lastH (hs.take j)).2) := by unfold upd; rw [if_pos h0]
      refine stN_pt (k := 1) h rfl (Nat.le_of_ble_eq_true rfl) (headCells_one _) fun w h => ?_
      simp only [nn_some, add_mk, Nat.zero_add, Nat.add_zero, Nat.reduceAdd, Nat.reduceMul, Option.isNone_some, Option.isNone_none, br_true, br_false, Bool.not_true, Bool.not_false, xI_eq, xB_eq, xS_eq, xP_eq, xL_eq, x0_eq, x2_eq, x3_eq, chk_eq, true_and, and_true, List.set_cons_zero, List.set_cons_succ, List.eraseIdx_cons_zero, List.eraseIdx_cons_succ] at h
      refine ⟨⟨j + 1, rfl, by omega, ?_⟩, by omega⟩
      rw [htk, hup]
      exact h.drop
    · rw [h0]
      have hup : upd (lastH (hs.take j)) hs[j] = ((lastH (hs.take j)).1, hs[j]) := by unfold upd; rw [if_neg (by omega)]
      refine stN_pt (k := 1) (o := 4) h rfl (Nat.le_of_ble_eq_true rfl) (headCells_one _) fun w h => ?_
      simp only [nn_some, add_mk, Nat.zero_add, Nat.add_zero, Nat.reduceAdd, Nat.reduceMul, Option.isNone_some, Option.isNone_none, br_true, br_false, Bool.not_true, Bool.not_false, xI_eq, xB_eq, xS_eq, xP_eq, xL_eq, x0_eq, x2_eq, x3_eq, chk_eq, true_and, and_true, List.set_cons_zero, List.set_cons_succ, List.eraseIdx_cons_zero, List.eraseIdx_cons_succ] at h
      refine ⟨⟨j + 1, rfl, by omega, ?_⟩, by omega⟩
      rw [htk, hup]
      exact h.drop
  · have hjn : j = n := by omega
    subst hjn
    rw [List.take_of_length_le (by omega)] at h
    generalize lastH hs = x at *
    obtain ⟨x0, x1⟩ := x
    dsimp only at h
    refine ⟨by decide, ?_⟩
    simp only [nn_some, add_mk, Nat.zero_add, Nat.add_zero, Nat.reduceAdd, Nat.reduceMul, Option.isNone_some, Option.isNone_none, br_true, br_false, Bool.not_true, Bool.not_false, xI_eq, xB_eq, xS_eq, xP_eq, xL_eq, x0_eq, x2_eq, x3_eq, chk_eq, true_and, and_true, List.set_cons_zero, List.set_cons_succ, List.eraseIdx_cons_zero, List.eraseIdx_cons_succ]
    refine ld_pt (k := 0) (o := 4) h rfl (v := .int .i64 x1.turn) rfl ?_
    simp only [nn_some, add_mk, Nat.zero_add, Nat.add_zero, Nat.reduceAdd, Nat.reduceMul, Option.isNone_some, Option.isNone_none, br_true, br_false, Bool.not_true, Bool.not_false, xI_eq, xB_eq, xS_eq, xP_eq, xL_eq, x0_eq, x2_eq, x3_eq, chk_eq, true_and, and_true, List.set_cons_zero, List.set_cons_succ, List.eraseIdx_cons_zero, List.eraseIdx_cons_succ]
    refine ⟨by decide, ?_⟩
    refine ld_pt (k := 0) h rfl (v := .int .i64 x0.turn) rfl ?_
    simp only [nn_some, add_mk, Nat.zero_add, Nat.add_zero, Nat.reduceAdd, Nat.reduceMul, Option.isNone_some, Option.isNone_none, br_true, br_false, Bool.not_true, Bool.not_false, xI_eq, xB_eq, xS_eq, xP_eq, xL_eq, x0_eq, x2_eq, x3_eq, chk_eq, true_and, and_true, List.set_cons_zero, List.set_cons_succ, List.eraseIdx_cons_zero, List.eraseIdx_cons_succ]
    unfold tellL at hK
    dsimp only at hK
    refine br_dec (fun hgt => ?_) (fun hle => ?_)
    · rw [if_pos hgt] at hK
      refine ⟨by decide, ?_⟩
      refine ldN_pt (k := 0) (o := 4) (xs := headCells x1) h rfl rfl (fun i v hi => by rw [Nat.add_comm]; exact hi) ?_
      refine ⟨rfl, ?_⟩
      refine stN_pt (k := 1) h rfl (Nat.le_of_ble_eq_true rfl) (headCells_one _) fun w h => ?_
      rw [over_all (by simp [headCells])] at h
      simp only [nn_some, add_mk, Nat.zero_add, Nat.add_zero, Nat.reduceAdd, Nat.reduceMul, Option.isNone_some, Option.isNone_none, br_true, br_false, Bool.not_true, Bool.not_false, xI_eq, xB_eq, xS_eq, xP_eq, xL_eq, x0_eq, x2_eq, x3_eq, chk_eq, true_and, and_true, List.set_cons_zero, List.set_cons_succ, List.eraseIdx_cons_zero, List.eraseIdx_cons_succ] at h
      refine ldN_pt (k := 1) (xs := headCells x1) h rfl rfl (fun j v hj => by rw [Nat.zero_add]; exact hj) ?_
      exact hK _ h.drop.drop
    · rw [if_neg hle] at hK
      refine tick_of h fun w h => ?_
      refine ⟨by decide, ?_⟩
      refine ldN_pt (k := 0) (o := 0) (xs := headCells x0) h rfl rfl (fun i v hi => by rw [Nat.zero_add, List.getElem?_append_left (List.getElem?_eq_some_iff.1 hi).1]; exact hi) ?_
      refine ⟨by decide, ?_⟩
      refine ld_pt (k := 0) h rfl (v := .int .i64 x0.turn) rfl ?_
      simp only [nn_some, add_mk, Nat.zero_add, Nat.add_zero, Nat.reduceAdd, Nat.reduceMul, Option.isNone_some, Option.isNone_none, br_true, br_false, Bool.not_true, Bool.not_false, xI_eq, xB_eq, xS_eq, xP_eq, xL_eq, x0_eq, x2_eq, x3_eq, chk_eq, true_and, and_true, List.set_cons_zero, List.set_cons_succ, List.eraseIdx_cons_zero, List.eraseIdx_cons_succ]
      refine ⟨rfl, ?_⟩
      refine stN_pt (k := 1) h rfl (Nat.le_of_ble_eq_true rfl) (headCells_one _) fun w h => ?_
      rw [over_all (by simp [headCells])] at h
      simp only [nn_some, add_mk, Nat.zero_add, Nat.add_zero, Nat.reduceAdd, Nat.reduceMul, Option.isNone_some, Option.isNone_none, br_true, br_false, Bool.not_true, Bool.not_false, xI_eq, xB_eq, xS_eq, xP_eq, xL_eq, x0_eq, x2_eq, x3_eq, chk_eq, true_and, and_true, List.set_cons_zero, List.set_cons_succ, List.eraseIdx_cons_zero, List.eraseIdx_cons_succ] at h
      refine kp_one (k := 0) h rfl rfl ?_
      refine ldN_pt (k := 1) (xs := headCells x0) h rfl rfl (fun j v hj => by rw [Nat.zero_add]; exact hj) ?_
      exact hK _ h.drop.drop

theorem cPut_nil {number : Int} {h : PHead} {K : VK} (hs : St W w L) (hK : ∀ w', St W w' L → K (.int .i64 2) w') : crown_Put none number (headCells h) K w := by
  unfold crown_Put
  refine mk_of hs fun r6 w hs => ?_
  refine ldN_pt (k := 0) (xs := headCells h) hs rfl rfl (fun j v hj => by rw [Nat.zero_add]; exact hj) ?_
  refine cBytes_spec hs fun w hs => ?_
  simp only [nn_some, add_mk, Nat.zero_add, Nat.add_zero, Nat.reduceAdd, Nat.reduceMul, Option.isNone_some, Option.isNone_none, br_true, br_false, Bool.not_true, Bool.not_false, xI_eq, xB_eq, xS_eq, xP_eq, xL_eq, x0_eq, x2_eq, x3_eq, chk_eq, true_and, and_true, List.set_cons_zero, List.set_cons_succ, List.eraseIdx_cons_zero, List.eraseIdx_cons_succ]
  exact hK w hs.drop

theorem new4_tells : TellsD (Disk.new 4) [] := ⟨calm_new (n := 4) (by decide), by decide +kernel, by decide +kernel⟩

theorem Puts8_spec {b : Option Addr} {n c : Nat} {hs : List PHead} {number : Int} {K : VK} (h : St W w L) (hr : Ro W b n 4 (hs.flatMap headCells)) (hn : hs.length = n) (hmx : n ≤ maxLen) (hK : ∀ w', St W w' L → K (.bool true) w') : bondstorelaw08_CrownPuts b n c number K w := by
  unfold maxLen at hmx
  unfold bondstorelaw08_CrownPuts
  refine alive8_spec h fun w h => ?_
  simp only [nn_some, add_mk, Nat.zero_add, Nat.add_zero, Nat.reduceAdd, Nat.reduceMul, Option.isNone_some, Option.isNone_none, br_true, br_false, Bool.not_true, Bool.not_false, xI_eq, xB_eq, xS_eq, xP_eq, xL_eq, x0_eq, x2_eq, x3_eq, chk_eq, true_and, and_true, List.set_cons_zero, List.set_cons_succ, List.eraseIdx_cons_zero, List.eraseIdx_cons_succ]
  have go : ∀ x, (x = false → n ≤ 30 ∧ 1 ≤ number ∧ number ≤ 1099511627776) → bondstorelaw08_CrownPuts.j1 K b n c number x w := fun x hx => by
    unfold bondstorelaw08_CrownPuts.j1
    refine br_of (fun _ => hK w h) (fun hf => ?_)
    obtain ⟨h30, hn1, hn2⟩ := hx hf
    refine New_spec h fun d w h => ?_
    simp only [nn_some, add_mk, Nat.zero_add, Nat.add_zero, Nat.reduceAdd, Nat.reduceMul, Option.isNone_some, Option.isNone_none, br_true, br_false, Bool.not_true, Bool.not_false, xI_eq, xB_eq, xS_eq, xP_eq, xL_eq, x0_eq, x2_eq, x3_eq, chk_eq, true_and, and_true, List.set_cons_zero, List.set_cons_succ, List.eraseIdx_cons_zero, List.eraseIdx_cons_succ]
    have hs0 := h.push (A := own none 0 0 4 (([] : List PHead).flatMap headCells)) (own_nil 4)
    refine ⟨fun us w' => ∃ (j : Nat) (pb : Option Addr) (pn pc : Nat) (ps : List PHead) (D : Disk), us = [.bool false, .pointer (some ⟨d, 0, none⟩), .slice pb pn pc, .slice b n c, .int .i64 n, .int .i64 j] ∧ j ≤ n ∧ ps.length = pn ∧ pn ≤ j ∧ (∀ x ∈ ps, HGood x) ∧ TellsD D ps ∧ St W w' (own pb pn pc 4 (ps.flatMap headCells) :: disk d D :: L),
      fun us _ => match us with | [_, _, _, _, _, .int _ j] => n - j.toNat | _ => 0, ⟨0, none, 0, 0, [], Disk.new 4, rfl, Nat.zero_le _, rfl, Nat.le_refl _, by simp, new4_tells, hs0⟩, ?_⟩
    rintro b3 p2 sb2 sn2 sc2 sb3 sn3 sc3 n2 n3 w2 ⟨j, pb, pn, pc, ps, D, he, hj, hpl, hpj, hpg, ht, h⟩
    cases he
    refine br_dec (fun hlt => ?_) (fun hge => ?_)
    · have hlt2 : j < hs.length := by omega
      have hget : hs[j]? = some hs[j] := by simp [hlt2]
      refine elem_ro (ys := headCells hs[j]) h hr ⟨by omega, hlt⟩ rfl rfl (headCells_one _) (fun i v hi => by rw [Int.toNat_natCast]; exact heads_get hget i v hi) fun r w h => ?_
      generalize hs[j] = hd at *
      refine ldN_pt (k := 0) (xs := headCells hd) h rfl rfl (fun j v hj => by rw [Nat.zero_add]; exact hj) ?_
      have ew : IntKind.i64.wrap (number + (j : Int)) = number + j := wrap_id (by omega)
      have e5 : IntKind.i64.wrap ((j : Int) + 1) = ((j + 1 : Nat) : Int) := by rw [wrap_id (by omega)]; omega
      rw [ew, e5]
      refine cPut_spec (k := 2) h rfl ht.calm.ok (by have := ht.calm.later; omega) fun w h => ?_
      simp only [nn_some, add_mk, Nat.zero_add, Nat.add_zero, Nat.reduceAdd, Nat.reduceMul, Option.isNone_some, Option.isNone_none, br_true, br_false, Bool.not_true, Bool.not_false, xI_eq, xB_eq, xS_eq, xP_eq, xL_eq, x0_eq, x2_eq, x3_eq, chk_eq, true_and, and_true, List.set_cons_zero, List.set_cons_succ, List.eraseIdx_cons_zero, List.eraseIdx_cons_succ] at h ⊢
      refine ldN_pt (k := 0) (xs := headCells hd) h rfl rfl (fun j v hj => by rw [Nat.zero_add]; exact hj) ?_
      refine good8_spec h fun w h => ?_
      by_cases hg : HGood hd
      · rw [decide_eq_true hg]
        simp only [nn_some, add_mk, Nat.zero_add, Nat.add_zero, Nat.reduceAdd, Nat.reduceMul, Option.isNone_some, Option.isNone_none, br_true, br_false, Bool.not_true, Bool.not_false, xI_eq, xB_eq, xS_eq, xP_eq, xL_eq, x0_eq, x2_eq, x3_eq, chk_eq, true_and, and_true, List.set_cons_zero, List.set_cons_succ, List.eraseIdx_cons_zero, List.eraseIdx_cons_succ]
        obtain ⟨t1, t2⟩ := tells_put ht (n := number + j) ⟨by omega, by omega⟩ hg
        rw [t1]
        generalize (cput D (number + (j : Int)) hd).1 = D1 at *
        refine ldN_pt (k := 0) (xs := headCells hd) h rfl rfl (fun j v hj => by rw [Nat.zero_add]; exact hj) ?_
        refine ⟨rfl, ?_⟩
        rw [List.append_nil]
        refine mk_of h fun r2 w h => ?_
        refine appSl_own (k := 2) (ys := headCells hd) h rfl (Src_pt (k' := 0) h rfl rfl fun j v hj => by rw [Nat.zero_add]; exact hj) (by simp) rfl (by omega) (by omega) (headCells_one _) fun b' c' w h => ?_
        simp only [nn_some, add_mk, Nat.zero_add, Nat.add_zero, Nat.reduceAdd, Nat.reduceMul, Option.isNone_some, Option.isNone_none, br_true, br_false, Bool.not_true, Bool.not_false, xI_eq, xB_eq, xS_eq, xP_eq, xL_eq, x0_eq, x2_eq, x3_eq, chk_eq, true_and, and_true, List.set_cons_zero, List.set_cons_succ, List.eraseIdx_cons_zero, List.eraseIdx_cons_succ] at h ⊢
        have hfm : ps.flatMap headCells ++ headCells hd = (ps ++ [hd]).flatMap headCells := by simp
        rw [hfm] at h
        have hpg2 : ∀ x ∈ ps ++ [hd], HGood x := fun x hx => by
          rcases List.mem_append.1 hx with hx | hx
          · exact hpg x hx
          · simp at hx; subst hx; exact hg
        have hpl2 : (ps ++ [hd]).length = sn2 + 1 := by rw [List.length_append, hpl]; rfl
        generalize ps ++ [hd] = qs at *
        refine Newest_spec (k := 3) h rfl t2.calm.ok fun w h => ?_
        have hfair := fair_last qs (zeroH, zeroH) (.inl rfl) (.inl rfl) hpg2
        obtain ⟨n1, n2⟩ := tell_newest hfair.1 hfair.2
        rw [headRes_eq, t2.a0, t2.a1]
        have n1' : hdOf (newestH (optH (lastH qs).1) (optH (lastH qs).2)) = (tellL (lastH qs)).1 := n1
        have n2' : (newestH (optH (lastH qs).1) (optH (lastH qs).2)).isSome = (tellL (lastH qs)).2 := n2
        rw [n1', n2']
        simp only [nn_some, add_mk, Nat.zero_add, Nat.add_zero, Nat.reduceAdd, Nat.reduceMul, Option.isNone_some, Option.isNone_none, br_true, br_false, Bool.not_true, Bool.not_false, xI_eq, xB_eq, xS_eq, xP_eq, xL_eq, x0_eq, x2_eq, x3_eq, chk_eq, true_and, and_true, List.set_cons_zero, List.set_cons_succ, List.eraseIdx_cons_zero, List.eraseIdx_cons_succ]
        simp only [xA_eq]
        refine ⟨rfl, ?_⟩
        simp only [nn_some, add_mk, Nat.zero_add, Nat.add_zero, Nat.reduceAdd, Nat.reduceMul, Option.isNone_some, Option.isNone_none, br_true, br_false, Bool.not_true, Bool.not_false, xI_eq, xB_eq, xS_eq, xP_eq, xL_eq, x0_eq, x2_eq, x3_eq, chk_eq, true_and, and_true, List.set_cons_zero, List.set_cons_succ, List.eraseIdx_cons_zero, List.eraseIdx_cons_succ]
        refine mk_of h fun r3 w h => ?_
        refine ⟨rfl, stN_pt (k := 0) h rfl (Nat.le_of_ble_eq_true rfl) (headCells_one _) fun w h => ?_⟩
        rw [over_all (by simp [headCells])] at h
        simp only [nn_some, add_mk, Nat.zero_add, Nat.add_zero, Nat.reduceAdd, Nat.reduceMul, Option.isNone_some, Option.isNone_none, br_true, br_false, Bool.not_true, Bool.not_false, xI_eq, xB_eq, xS_eq, xP_eq, xL_eq, x0_eq, x2_eq, x3_eq, chk_eq, true_and, and_true, List.set_cons_zero, List.set_cons_succ, List.eraseIdx_cons_zero, List.eraseIdx_cons_succ] at h
        refine newest_spec (k := 3) h rfl hpl2 (by unfold maxLen; omega) hpg2 fun w h => ?_
        simp only [nn_some, add_mk, Nat.zero_add, Nat.add_zero, Nat.reduceAdd, Nat.reduceMul, Option.isNone_some, Option.isNone_none, br_true, br_false, Bool.not_true, Bool.not_false, xI_eq, xB_eq, xS_eq, xP_eq, xL_eq, x0_eq, x2_eq, x3_eq, chk_eq, true_and, and_true, List.set_cons_zero, List.set_cons_succ, List.eraseIdx_cons_zero, List.eraseIdx_cons_succ]
        simp only [xA_eq]
        refine ⟨rfl, ?_⟩
        simp only [nn_some, add_mk, Nat.zero_add, Nat.add_zero, Nat.reduceAdd, Nat.reduceMul, Option.isNone_some, Option.isNone_none, br_true, br_false, Bool.not_true, Bool.not_false, xI_eq, xB_eq, xS_eq, xP_eq, xL_eq, x0_eq, x2_eq, x3_eq, chk_eq, true_and, and_true, List.set_cons_zero, List.set_cons_succ, List.eraseIdx_cons_zero, List.eraseIdx_cons_succ]
        refine mk_of h fun r4 w h => ?_
        refine ⟨rfl, stN_pt (k := 0) h rfl (Nat.le_of_ble_eq_true rfl) (headCells_one _) fun w h => ?_⟩
        rw [over_all (by simp [headCells])] at h
        simp only [nn_some, add_mk, Nat.zero_add, Nat.add_zero, Nat.reduceAdd, Nat.reduceMul, Option.isNone_some, Option.isNone_none, br_true, br_false, Bool.not_true, Bool.not_false, xI_eq, xB_eq, xS_eq, xP_eq, xL_eq, x0_eq, x2_eq, x3_eq, chk_eq, true_and, and_true, List.set_cons_zero, List.set_cons_succ, List.eraseIdx_cons_zero, List.eraseIdx_cons_succ] at h
        rw [bne_self_eq_false, br_false]
        refine ldN_pt (k := 1) (xs := headCells (tellL (lastH qs)).1) h rfl rfl (fun j v hj => by rw [Nat.zero_add]; exact hj) ?_
        refine ldN_pt (k := 0) (xs := headCells (tellL (lastH qs)).1) h rfl rfl (fun j v hj => by rw [Nat.zero_add]; exact hj) ?_
        refine ⟨⟨rfl, rfl⟩, ?_⟩
        rw [eqCells_head, decide_eq_true rfl, beq_self_eq_true]
        simp only [nn_some, add_mk, Nat.zero_add, Nat.add_zero, Nat.reduceAdd, Nat.reduceMul, Option.isNone_some, Option.isNone_none, br_true, br_false, Bool.not_true, Bool.not_false, xI_eq, xB_eq, xS_eq, xP_eq, xL_eq, x0_eq, x2_eq, x3_eq, chk_eq, true_and, and_true, List.set_cons_zero, List.set_cons_succ, List.eraseIdx_cons_zero, List.eraseIdx_cons_succ]
        exact ⟨⟨j + 1, b', sn2 + 1, c', qs, D1, rfl, by omega, hpl2, by omega, hpg2, t2, h.drop.drop.drop.drop⟩, by omega⟩
      · rw [decide_eq_false hg]
        simp only [nn_some, add_mk, Nat.zero_add, Nat.add_zero, Nat.reduceAdd, Nat.reduceMul, Option.isNone_some, Option.isNone_none, br_true, br_false, Bool.not_true, Bool.not_false, xI_eq, xB_eq, xS_eq, xP_eq, xL_eq, x0_eq, x2_eq, x3_eq, chk_eq, true_and, and_true, List.set_cons_zero, List.set_cons_succ, List.eraseIdx_cons_zero, List.eraseIdx_cons_succ]
        have hcp : cput D (number + (j : Int)) hd = (D, 1) := by unfold cput; rw [if_neg hg]
        rw [hcp] at h ⊢
        rw [bne_self_eq_false, br_false]
        exact ⟨⟨j + 1, sb2, sn2, sc2, ps, D, rfl, by omega, hpl, by omega, hpg, ht, h.drop⟩, by omega⟩
    · have h := h.drop.drop
      refine New_spec h fun d0 w h => ?_
      simp only [nn_some, add_mk, Nat.zero_add, Nat.add_zero, Nat.reduceAdd, Nat.reduceMul, Option.isNone_some, Option.isNone_none, br_true, br_false, Bool.not_true, Bool.not_false, xI_eq, xB_eq, xS_eq, xP_eq, xL_eq, x0_eq, x2_eq, x3_eq, chk_eq, true_and, and_true, List.set_cons_zero, List.set_cons_succ, List.eraseIdx_cons_zero, List.eraseIdx_cons_succ]
      have e0 : newestH (atH (Disk.new 0) 0) (atH (Disk.new 0) 1) = none := by decide +kernel
      refine Newest_spec (k := 0) h rfl (new_ok 0) fun w h => ?_
      rw [e0]
      unfold headRes
      simp only [nn_some, add_mk, Nat.zero_add, Nat.add_zero, Nat.reduceAdd, Nat.reduceMul, Option.isNone_some, Option.isNone_none, br_true, br_false, Bool.not_true, Bool.not_false, xI_eq, xB_eq, xS_eq, xP_eq, xL_eq, x0_eq, x2_eq, x3_eq, chk_eq, true_and, and_true, List.set_cons_zero, List.set_cons_succ, List.eraseIdx_cons_zero, List.eraseIdx_cons_succ]
      simp only [xA_eq]
      refine ⟨rfl, ?_⟩
      simp only [nn_some, add_mk, Nat.zero_add, Nat.add_zero, Nat.reduceAdd, Nat.reduceMul, Option.isNone_some, Option.isNone_none, br_true, br_false, Bool.not_true, Bool.not_false, xI_eq, xB_eq, xS_eq, xP_eq, xL_eq, x0_eq, x2_eq, x3_eq, chk_eq, true_and, and_true, List.set_cons_zero, List.set_cons_succ, List.eraseIdx_cons_zero, List.eraseIdx_cons_succ]
      refine mk_of h fun r5 w h => ?_
      refine ⟨rfl, stN_pt (k := 0) h rfl (Nat.le_of_ble_eq_true rfl) (headCells_one _) fun w h => ?_⟩
      simp only [nn_some, add_mk, Nat.zero_add, Nat.add_zero, Nat.reduceAdd, Nat.reduceMul, Option.isNone_some, Option.isNone_none, br_true, br_false, Bool.not_true, Bool.not_false, xI_eq, xB_eq, xS_eq, xP_eq, xL_eq, x0_eq, x2_eq, x3_eq, chk_eq, true_and, and_true, List.set_cons_zero, List.set_cons_succ, List.eraseIdx_cons_zero, List.eraseIdx_cons_succ] at h
      refine ⟨by simp, ?_⟩
      refine cPut_nil (h := ⟨1, 1, 0, 0⟩) h fun w h => ?_
      simp only [nn_some, add_mk, Nat.zero_add, Nat.add_zero, Nat.reduceAdd, Nat.reduceMul, Option.isNone_some, Option.isNone_none, br_true, br_false, Bool.not_true, Bool.not_false, xI_eq, xB_eq, xS_eq, xP_eq, xL_eq, x0_eq, x2_eq, x3_eq, chk_eq, true_and, and_true, List.set_cons_zero, List.set_cons_succ, List.eraseIdx_cons_zero, List.eraseIdx_cons_succ]
      rw [beq_self_eq_true, br_true]
      refine New_spec h fun d4 w h => ?_
      simp only [nn_some, add_mk, Nat.zero_add, Nat.add_zero, Nat.reduceAdd, Nat.reduceMul, Option.isNone_some, Option.isNone_none, br_true, br_false, Bool.not_true, Bool.not_false, xI_eq, xB_eq, xS_eq, xP_eq, xL_eq, x0_eq, x2_eq, x3_eq, chk_eq, true_and, and_true, List.set_cons_zero, List.set_cons_succ, List.eraseIdx_cons_zero, List.eraseIdx_cons_succ]
      have e1 : (cput (Disk.new 4) 0 ⟨1, 1, 0, 0⟩).2 = 1 := by decide +kernel
      refine cPut_spec (h := ⟨1, 1, 0, 0⟩) (k := 0) h rfl (new_ok 4) (by decide +kernel) fun w h => ?_
      simp only [nn_some, add_mk, Nat.zero_add, Nat.add_zero, Nat.reduceAdd, Nat.reduceMul, Option.isNone_some, Option.isNone_none, br_true, br_false, Bool.not_true, Bool.not_false, xI_eq, xB_eq, xS_eq, xP_eq, xL_eq, x0_eq, x2_eq, x3_eq, chk_eq, true_and, and_true, List.set_cons_zero, List.set_cons_succ, List.eraseIdx_cons_zero, List.eraseIdx_cons_succ] at h ⊢
      rw [e1, beq_self_eq_true, br_true]
      exact hK w h.drop.drop.drop
  refine br_dec (fun h1 => go _ (fun hf => by cases hf)) (fun h1 => ?_)
  refine br_dec (fun h2 => go _ (fun hf => by cases hf)) (fun h2 => ?_)
  exact go _ (fun hf => ⟨by omega, by omega, by have := of_decide_eq_false hf; omega⟩)

theorem Puts8_ok {a0 : Option Addr} {n0 c0 : Nat} {x0 : List Value} {a1 : Int} (ro0 : Ro W a0 n0 4 x0) (el0 : Elems [.i .i64, .i .i64, .i .i64, .i .i64] n0 x0) (mx0 : n0 ≤ maxLen) (_ : (Lit.int .i64 a1).wf = true) :
    bondstorelaw08_CrownPuts.u [.slice a0 n0 c0, .int .i64 a1] (fun v w' => v = .bool true ∧ Below W.heap.size W w') W := by
  obtain ⟨hs, h1, h2, h3⟩ := elems_heads el0 ro0.1
  subst h2
  unfold bondstorelaw08_CrownPuts.u
  exact Puts8_spec (K := fun v w' => v = .bool true ∧ Below W.heap.size W w') (St.start W) ro0 h1 mx0 (fun w' h => ⟨rfl, h.below⟩)
end
end Go.Sep
