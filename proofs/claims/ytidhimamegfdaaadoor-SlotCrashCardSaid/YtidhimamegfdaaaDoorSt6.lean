/- Layer 5: bytes taken from sectors. -/
import Derived.Test.YtidhimamegfdaaaDoorSt5
namespace Go.Sep
open Go.Den Go.RowKit Go.Prog Go.Plat
set_option linter.unusedSimpArgs false
set_option linter.unusedVariables false

/-- Sectors from the i-th on, 'n' of them, taken: all their bytes. -/
def takeF (D : Disk) (at' number : Int) (size : Nat) : Nat → Nat → Option (List UInt8)
  | _, 0 => some []
  | i, n + 1 => match readV (D.read (at' + i)).1.data.toList with
    | none => none
    | some (m, j, d) => if m = number ∧ j = i ∧ d.size = min (size - 104 * i) 104 then (takeF D at' number size (i + 1) n).map (d.data.toList ++ ·) else none

def take (D : Disk) (at' to number size : Int) : Option (List UInt8) :=
  if at' < 0 ∨ (D.safe.length : Int) < to ∨ to < at' ∨ size < 0 ∨ 425984 < size ∨ to - at' < (cnt size.toNat : Int) then none else takeF D at' number size.toNat 0 (cnt size.toNat)

def takeRes : Option (List UInt8) → Value
  | none => .tuple ⟨[.string .empty, .bool false]⟩
  | some l => .tuple ⟨[.string (bs l), .bool true]⟩

theorem takeF_succ (D : Disk) (at' number : Int) (size i n : Nat) : takeF D at' number size i (n + 1) = match readV (D.read (at' + i)).1.data.toList with
    | none => none
    | some (m, j, d) => if m = number ∧ j = i ∧ d.size = min (size - 104 * i) 104 then (takeF D at' number size (i + 1) n).map (d.data.toList ++ ·) else none := rfl

theorem isB_below {B b : Nat} {l : List UInt8} {w w' : World} (h : isB B b l w) (hb : Below w.heap.size w w') : isB B b l w' := by
  have key : ∀ p, Go.Lib.BuilderAt tyB tyU8 B b p (Go.Lib.byteCells l) w → Go.Lib.BuilderAt tyB tyU8 B b p (Go.Lib.byteCells l) w' := by
    intro p h
    have hlt := h.lt
    obtain ⟨hB, v, hbk, hown, hne⟩ := h
    refine ⟨hB, v, by rw [hb.block b hlt]; exact hbk, ?_, hne⟩
    refine ⟨hown.1, ?_⟩
    rcases hown.2 with h0 | ⟨g, cap, cur, h1, h2, h3, h4⟩
    · exact .inl h0
    · refine .inr ⟨g, cap, cur, h1, h2, ?_, h4⟩
      have hg : g < w.heap.size := (Array.getElem?_eq_some_iff.1 h3).1
      rw [hb.block g hg]; exact h3
  rcases h with h | h
  · exact .inl (key _ h)
  · exact .inr (key _ h)

theorem isB_new {w : World} : isB w.heap.size w.heap.size [] (w.alloc (.cells ⟨[.pointer none, .slice none 0 0]⟩ tyB)) := by
  refine .inl ⟨Nat.le_refl _, .slice none 0 0, ?_, ?_, by intro h; cases h⟩
  · show (w.heap.push _)[w.heap.size]? = _
    rw [Array.getElem?_push_size]
  · exact ⟨rfl, .inl ⟨rfl, rfl⟩⟩

section
variable {W w : World} {L : List HP} {k d : Nat} {D : Disk}

theorem Take_j1_spec {at' number : Int} {size : Nat} {b : Bool} {K : VK} (h : St W w L) (hk : L[k]? = some (disk d D)) (hok : D.Ok) (hat : b = false → 0 ≤ at' ∧ at' + (cnt size : Int) ≤ D.safe.length) (hsz : size ≤ 425984)
    (hK : ∀ w', St W w' L → K (takeRes (if b then none else takeF D at' number size 0 (cnt size))) w') : stamp_Take.j1 K size (some ⟨d, 0, none⟩) at' number b w := by
  have hfew := hok.few
  unfold stamp_Take.j1
  refine br_of (fun hb => ?_) (fun hb => ?_)
  · rw [if_pos hb] at hK
    exact hK w h
  rw [if_neg (by rw [hb]; exact Bool.noConfusion)] at hK
  obtain ⟨h0, hto⟩ := hat hb
  generalize hw0 : w = w0 at *
  show mkT tyB [.pointer none, .slice none 0 0] _ w0
  unfold mkT
  have hB0 := isB_new (w := w0)
  have hbel0 : Below w0.heap.size w0 (w0.alloc (.cells ⟨[.pointer none, .slice none 0 0]⟩ tyB)) := Below.alloc (Below.refl _ _) (Nat.le_refl _) _
  generalize hw1 : w0.alloc (.cells ⟨[.pointer none, .slice none 0 0]⟩ tyB) = w1 at *
  generalize hq : w0.heap.size = q at *
  refine Count_spec (by omega) ?_
  simp only [nn_some, add_mk, Nat.zero_add, Nat.add_zero, Nat.reduceAdd, Nat.reduceMul, Option.isNone_some, Option.isNone_none, br_true, br_false, Bool.not_true, Bool.not_false, xI_eq, xB_eq, xS_eq, xP_eq, xL_eq, x0_eq, x2_eq, x3_eq, chk_eq, true_and, and_true, List.set_cons_zero, List.set_cons_succ, List.eraseIdx_cons_zero, List.eraseIdx_cons_succ]
  refine ⟨fun us w' => ∃ (j : Nat) (l : List UInt8), us = [.string .empty, .bool false, .pointer (some ⟨q, 0, none⟩), .int .i64 (cnt size), .int .i64 j] ∧ j ≤ cnt size ∧ l.length ≤ 104 * j ∧ isB q q l w' ∧ Below q w0 w' ∧ q ≤ w'.heap.size ∧
      takeF D at' number size 0 (cnt size) = (takeF D at' number size j (cnt size - j)).map (l ++ ·),
    fun us _ => match us with | [_, _, _, _, .int _ j] => cnt size - j.toNat | _ => 0, ⟨0, [], rfl, Nat.zero_le _, Nat.le_refl _, hB0, hbel0, ?_, ?_⟩, ?_⟩
  · have := hbel0.size; omega
  · cases takeF D at' number size 0 (cnt size) <;> simp
  rintro s1 b2 a1 n6 n7 w2 ⟨j, l, he, hj, hll, hB, hbel, hqs, htk⟩
  cases he
  have hs : St W w2 L := h.below_trans (by rw [hq]; exact hbel)
  have hcs : cnt size ≤ 4096 := by unfold cnt; split <;> omega
  refine br_dec (fun hlt => ?_) (fun hge => ?_)
  · have ea : IntKind.i64.wrap (at' + (j : Int)) = at' + j := wrap_id (by omega)
    rw [ea]
    refine Disk_Read_spec hs hk hok ?_
    simp only [nn_some, add_mk, Nat.zero_add, Nat.add_zero, Nat.reduceAdd, Nat.reduceMul, Option.isNone_some, Option.isNone_none, br_true, br_false, Bool.not_true, Bool.not_false, xI_eq, xB_eq, xS_eq, xP_eq, xL_eq, x0_eq, x2_eq, x3_eq, chk_eq, true_and, and_true, List.set_cons_zero, List.set_cons_succ, List.eraseIdx_cons_zero, List.eraseIdx_cons_succ]
    have hsz1 := read_size hok (i := at' + j) ⟨by omega, by omega⟩
    obtain ⟨p, hp⟩ : ∃ p, cnt size - j = p + 1 := ⟨cnt size - j - 1, by omega⟩
    rw [hp, takeF_succ] at htk
    generalize hx : (D.read (at' + (j : Int))).1 = x at *
    rw [show x = bs x.data.toList from rfl]
    refine Read_spec (St.start w2) (by rw [toList_length]; omega) fun w3 hs3 => ?_
    have hb3 := hs3.below
    have hbel3 : Below q w0 w3 := hbel.trans (hb3.mono hqs)
    have hs' : St W w3 L := h.below_trans (by rw [hq]; exact hbel3)
    have no : takeF D at' number size 0 (cnt size) = none → ∀ w', Below q w0 w' → K (.tuple ⟨[.string .empty, .bool false]⟩) w' := fun hn w' hb => by
      have := hK w' (h.below_trans (by rw [hq]; exact hb))
      rw [hn] at this; exact this
    cases hv : readV x.data.toList with
    | none =>
      rw [hv] at htk
      unfold readRes
      simp only [nn_some, add_mk, Nat.zero_add, Nat.add_zero, Nat.reduceAdd, Nat.reduceMul, Option.isNone_some, Option.isNone_none, br_true, br_false, Bool.not_true, Bool.not_false, xI_eq, xB_eq, xS_eq, xP_eq, xL_eq, x0_eq, x2_eq, x3_eq, chk_eq, true_and, and_true, List.set_cons_zero, List.set_cons_succ, List.eraseIdx_cons_zero, List.eraseIdx_cons_succ]
      simp only [xA_eq, List.length_cons, List.length_nil, Nat.zero_add, Nat.reduceAdd, true_and]
      simp only [nn_some, add_mk, Nat.zero_add, Nat.add_zero, Nat.reduceAdd, Nat.reduceMul, Option.isNone_some, Option.isNone_none, br_true, br_false, Bool.not_true, Bool.not_false, xI_eq, xB_eq, xS_eq, xP_eq, xL_eq, x0_eq, x2_eq, x3_eq, chk_eq, true_and, and_true, List.set_cons_zero, List.set_cons_succ, List.eraseIdx_cons_zero, List.eraseIdx_cons_succ]
      refine mk_of (St.start w3) fun r w4 hs4 => ?_
      refine ⟨trivial, stN_pt (k := 0) hs4 rfl (Nat.le_of_ble_eq_true rfl) (by simp [Value.oneCell']) fun w4 hs4 => ?_⟩
      exact no (by rw [htk]; rfl) w4 (hbel3.trans (hs4.below.mono (by have := hb3.size; omega)))
    | some y =>
      obtain ⟨m, i, dd⟩ := y
      rw [hv] at htk
      dsimp only at htk
      unfold readRes
      simp only [nn_some, add_mk, Nat.zero_add, Nat.add_zero, Nat.reduceAdd, Nat.reduceMul, Option.isNone_some, Option.isNone_none, br_true, br_false, Bool.not_true, Bool.not_false, xI_eq, xB_eq, xS_eq, xP_eq, xL_eq, x0_eq, x2_eq, x3_eq, chk_eq, true_and, and_true, List.set_cons_zero, List.set_cons_succ, List.eraseIdx_cons_zero, List.eraseIdx_cons_succ]
      simp only [xA_eq, List.length_cons, List.length_nil, Nat.zero_add, Nat.reduceAdd, true_and]
      simp only [nn_some, add_mk, Nat.zero_add, Nat.add_zero, Nat.reduceAdd, Nat.reduceMul, Option.isNone_some, Option.isNone_none, br_true, br_false, Bool.not_true, Bool.not_false, xI_eq, xB_eq, xS_eq, xP_eq, xL_eq, x0_eq, x2_eq, x3_eq, chk_eq, true_and, and_true, List.set_cons_zero, List.set_cons_succ, List.eraseIdx_cons_zero, List.eraseIdx_cons_succ]
      refine mk_of (St.start w3) fun r w4 hs4 => ?_
      refine ⟨trivial, stN_pt (k := 0) hs4 rfl (Nat.le_of_ble_eq_true rfl) (by simp [Value.oneCell']) fun w4 hs4 => ?_⟩
      rw [over_all (by simp)] at hs4
      simp only [nn_some, add_mk, Nat.zero_add, Nat.add_zero, Nat.reduceAdd, Nat.reduceMul, Option.isNone_some, Option.isNone_none, br_true, br_false, Bool.not_true, Bool.not_false, xI_eq, xB_eq, xS_eq, xP_eq, xL_eq, x0_eq, x2_eq, x3_eq, chk_eq, true_and, and_true, List.set_cons_zero, List.set_cons_succ, List.eraseIdx_cons_zero, List.eraseIdx_cons_succ] at hs4
      have hbel4 : Below q w0 w4 := hbel3.trans (hs4.below.mono (by have := hb3.size; omega))
      refine ld_pt (k := 0) hs4 rfl rfl ?_
      simp only [nn_some, add_mk, Nat.zero_add, Nat.add_zero, Nat.reduceAdd, Nat.reduceMul, Option.isNone_some, Option.isNone_none, br_true, br_false, Bool.not_true, Bool.not_false, xI_eq, xB_eq, xS_eq, xP_eq, xL_eq, x0_eq, x2_eq, x3_eq, chk_eq, true_and, and_true, List.set_cons_zero, List.set_cons_succ, List.eraseIdx_cons_zero, List.eraseIdx_cons_succ]
      refine br_ne (fun hne => ?_) (fun hmn => ?_)
      · exact no (by rw [htk, if_neg (fun hh => hne hh.1)]; rfl) w4 hbel4
      refine ld_pt (k := 0) hs4 rfl rfl ?_
      simp only [nn_some, add_mk, Nat.zero_add, Nat.add_zero, Nat.reduceAdd, Nat.reduceMul, Option.isNone_some, Option.isNone_none, br_true, br_false, Bool.not_true, Bool.not_false, xI_eq, xB_eq, xS_eq, xP_eq, xL_eq, x0_eq, x2_eq, x3_eq, chk_eq, true_and, and_true, List.set_cons_zero, List.set_cons_succ, List.eraseIdx_cons_zero, List.eraseIdx_cons_succ]
      refine br_ne (fun hne => ?_) (fun hij => ?_)
      · exact no (by rw [htk, if_neg (fun hh => hne hh.2.1)]; rfl) w4 hbel4
      refine ld_pt (k := 0) hs4 rfl rfl ?_
      simp only [nn_some, add_mk, Nat.zero_add, Nat.add_zero, Nat.reduceAdd, Nat.reduceMul, Option.isNone_some, Option.isNone_none, br_true, br_false, Bool.not_true, Bool.not_false, xI_eq, xB_eq, xS_eq, xP_eq, xL_eq, x0_eq, x2_eq, x3_eq, chk_eq, true_and, and_true, List.set_cons_zero, List.set_cons_succ, List.eraseIdx_cons_zero, List.eraseIdx_cons_succ]
      have e1 : IntKind.i64.wrap ((j : Int) * 104) = (j : Int) * 104 := wrap_id (by omega)
      have e2 : IntKind.i64.wrap ((size : Int) - (j : Int) * 104) = (size : Int) - (j : Int) * 104 := wrap_id (by omega)
      have hjs : 104 * j ≤ size := by
        rcases Nat.eq_zero_or_pos j with h0 | h0
        · omega
        · have := (cnt_lt (n := size) h0).2 (by omega)
          omega
      have e3 : min2 ((size : Int) - (j : Int) * 104) 104 = ((min (size - 104 * j) 104 : Nat) : Int) := by unfold min2; split <;> omega
      rw [e1, e2, e3]
      refine br_ne (fun hne => ?_) (fun hds => ?_)
      · exact no (by rw [htk, if_neg (fun hh => hne (by rw [hh.2.2]))]; rfl) w4 hbel4
      have hds' : dd.size = min (size - 104 * j) 104 := by omega
      refine ld_pt (k := 0) hs4 rfl rfl ?_
      simp only [nn_some, add_mk, Nat.zero_add, Nat.add_zero, Nat.reduceAdd, Nat.reduceMul, Option.isNone_some, Option.isNone_none, br_true, br_false, Bool.not_true, Bool.not_false, xI_eq, xB_eq, xS_eq, xP_eq, xL_eq, x0_eq, x2_eq, x3_eq, chk_eq, true_and, and_true, List.set_cons_zero, List.set_cons_succ, List.eraseIdx_cons_zero, List.eraseIdx_cons_succ]
      rw [if_pos ⟨hmn, hij, hds'⟩] at htk
      have hB4 : isB q q l w4 := isB_below hB (hb3.trans (hs4.below.mono hb3.size))
      refine ⟨q, q, l, rfl, hB4, by omega, (by have := hbel4.size; omega), fun w5 hB5 hbel5 => ?_⟩
      simp only [nn_some, add_mk, Nat.zero_add, Nat.add_zero, Nat.reduceAdd, Nat.reduceMul, Option.isNone_some, Option.isNone_none, br_true, br_false, Bool.not_true, Bool.not_false, xI_eq, xB_eq, xS_eq, xP_eq, xL_eq, x0_eq, x2_eq, x3_eq, chk_eq, true_and, and_true, List.set_cons_zero, List.set_cons_succ, List.eraseIdx_cons_zero, List.eraseIdx_cons_succ]
      have e5 : IntKind.i64.wrap ((j : Int) + 1) = ((j + 1 : Nat) : Int) := by rw [wrap_id (by omega)]; omega
      rw [e5]
      have hp2 : cnt size - (j + 1) = p := by omega
      refine ⟨⟨j + 1, _, rfl, by omega, ?_, hB5, hbel4.trans hbel5, ?_, ?_⟩, by omega⟩
      · rw [List.length_append, toList_length]; omega
      · have := hbel5.size; have := hbel4.size; omega
      · rw [htk, hp2]
        cases takeF D at' number size (j + 1) p <;> simp [List.append_assoc]
  · have hje : j = cnt size := by omega
    refine ⟨q, q, l, rfl, hB, hqs, fun w' hb => ?_⟩
    simp only [nn_some, add_mk, Nat.zero_add, Nat.add_zero, Nat.reduceAdd, Nat.reduceMul, Option.isNone_some, Option.isNone_none, br_true, br_false, Bool.not_true, Bool.not_false, xI_eq, xB_eq, xS_eq, xP_eq, xL_eq, x0_eq, x2_eq, x3_eq, chk_eq, true_and, and_true, List.set_cons_zero, List.set_cons_succ, List.eraseIdx_cons_zero, List.eraseIdx_cons_succ]
    have := hK w' (h.below_trans (by rw [hq]; exact hbel.trans hb))
    rw [htk, hje, Nat.sub_self] at this
    simp only [takeF, Option.map_some, List.append_nil, takeRes] at this
    exact this

theorem Take_spec {at' to number size : Int} {K : VK} (h : St W w L) (hk : L[k]? = some (disk d D)) (hok : D.Ok) (hK : ∀ w', St W w' L → K (takeRes (take D at' to number size)) w') : stamp_Take (some ⟨d, 0, none⟩) at' to number size K w := by
  have hfew := hok.few
  have bad : (at' < 0 ∨ (D.safe.length : Int) < to ∨ to < at' ∨ size < 0 ∨ 425984 < size ∨ to - at' < (cnt size.toNat : Int)) → stamp_Take.j1 K size (some ⟨d, 0, none⟩) at' number true w := fun hb => by
    unfold stamp_Take.j1
    rw [br_true]
    have := hK w h
    unfold take at this
    rw [if_pos hb] at this
    exact this
  unfold stamp_Take
  refine br_dec (fun h1 => bad (.inl h1)) (fun h1 => ?_)
  refine Disk_Sectors_spec h hk ?_
  simp only [nn_some, add_mk, Nat.zero_add, Nat.add_zero, Nat.reduceAdd, Nat.reduceMul, Option.isNone_some, Option.isNone_none, br_true, br_false, Bool.not_true, Bool.not_false, xI_eq, xB_eq, xS_eq, xP_eq, xL_eq, x0_eq, x2_eq, x3_eq, chk_eq, true_and, and_true, List.set_cons_zero, List.set_cons_succ, List.eraseIdx_cons_zero, List.eraseIdx_cons_succ]
  refine br_dec (fun h2 => bad (.inr (.inl h2))) (fun h2 => ?_)
  refine br_dec (fun h3 => bad (.inr (.inr (.inl h3)))) (fun h3 => ?_)
  refine br_dec (fun h4 => bad (.inr (.inr (.inr (.inl h4))))) (fun h4 => ?_)
  refine br_of (fun h5 => bad (.inr (.inr (.inr (.inr (.inl (of_decide_eq_true h5))))))) (fun h5 => ?_)
  have h5 := of_decide_eq_false h5
  obtain ⟨m, rfl⟩ := Int.eq_ofNat_of_zero_le (show 0 ≤ size by omega)
  refine Count_spec (by omega) ?_
  simp only [nn_some, add_mk, Nat.zero_add, Nat.add_zero, Nat.reduceAdd, Nat.reduceMul, Option.isNone_some, Option.isNone_none, br_true, br_false, Bool.not_true, Bool.not_false, xI_eq, xB_eq, xS_eq, xP_eq, xL_eq, x0_eq, x2_eq, x3_eq, chk_eq, true_and, and_true, List.set_cons_zero, List.set_cons_succ, List.eraseIdx_cons_zero, List.eraseIdx_cons_succ]
  have ew : IntKind.i64.wrap (to - at') = to - at' := wrap_id (by omega)
  rw [ew]
  refine Take_j1_spec h hk hok (fun hb => ?_) (by omega) fun w' hs => ?_
  · have := of_decide_eq_false hb
    omega
  · have := hK w' hs
    unfold take at this
    rw [Int.toNat_natCast] at this
    by_cases h6 : to - at' < (cnt m : Int)
    · rw [if_pos (by omega)] at this
      have e : decide ((cnt m : Int) > to - at') = true := decide_eq_true (by omega)
      rw [e, if_pos rfl]; exact this
    · rw [if_neg (by omega)] at this
      have e : decide ((cnt m : Int) > to - at') = false := decide_eq_false (by omega)
      rw [e, if_neg Bool.noConfusion]; exact this
end
end Go.Sep
