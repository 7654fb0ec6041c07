/- Layer 5: a sector is read. -/
import Derived.Test.YtidhimamegfdaaaDoorSt3
import Derived.Test.YtidhimamegfdaaaDoorTransD
namespace Go.Sep
open Go.Den Go.RowKit Go.Prog Go.Plat
set_option linter.unusedSimpArgs false
set_option linter.unusedVariables false

theorem bs_extract0 (l : List UInt8) (n : Nat) : (bs l).extract 0 n = bs (l.take n) := by
  apply bytes_ext
  rw [extract_toList, List.drop_zero, Nat.sub_zero]; rfl
theorem bs_extractN (l : List UInt8) (n : Nat) : (bs l).extract n (bs l).size = bs (l.drop n) := by
  apply bytes_ext
  rw [extract_toList, bs_size]
  show (l.drop n).take (l.length - n) = l.drop n
  rw [List.take_of_length_le (by rw [List.length_drop]; omega)]
theorem bs_append (a b : List UInt8) : bs a ++ bs b = bs (a ++ b) := by
  apply bytes_ext
  rw [ByteArray.data_append, Array.toList_append]; rfl
theorem bs_inj {a b : List UInt8} : bs a = bs b ↔ a = b := by
  constructor
  · intro h; have := congrArg (fun x => x.data.toList) h; exact this
  · intro h; rw [h]
theorem empty_bs : ByteArray.empty = bs [] := rfl

section
variable {W w : World} {L : List HP} {k : Nat}

/-! ### Texts that are trimmed -/

theorem trimRight_spec {l : List UInt8} {K : VK} (hl : l.length < 1099511627776) (hK : ∀ m, m ≤ l.length → (∀ j (h : j < l.length), m ≤ j → l[j] = 0) → (m = 0 ∨ ∃ h : m - 1 < l.length, l[m - 1] ≠ 0) → K (.string (bs (l.take m))) w) : strings_trimRightByte (bs l) 0 K w := by
  unfold strings_trimRightByte
  refine ⟨fun us w' => ∃ m : Nat, us = [.string (bs (l.take m)), .string .empty] ∧ m ≤ l.length ∧ (∀ j (h : j < l.length), m ≤ j → l[j] = 0) ∧ isW w w', fun us _ => match us with | [.string s, _] => s.size | _ => 0,
    ⟨l.length, by rw [List.take_length], Nat.le_refl _, fun j h hj => by omega, rfl⟩, ?_⟩
  rintro s2 s3 w2 ⟨m, he, hm, hz, hw⟩
  obtain rfl : w2 = w := hw
  cases he
  have hsz : (bs (l.take m)).size = m := by rw [bs_size, List.length_take]; omega
  rw [hsz]
  refine br_dec (fun hpos => ?_) (fun hneg => ?_)
  · have hm1 : m - 1 < l.length := by omega
    have ew : IntKind.i64.wrap ((m : Int) - 1) = ((m - 1 : Nat) : Int) := by rw [wrap_id (by omega)]; omega
    rw [ew]
    refine ⟨l[m - 1], ⟨by omega, ?_⟩, ?_⟩
    · rw [Int.toNat_natCast]
      show (l.take m)[m - 1]? = _
      rw [List.getElem?_take_of_lt (by omega), List.getElem?_eq_getElem hm1]
    refine br_eq (fun h0 => ?_) (fun h0 => ?_)
    · have hc : l[m - 1] = 0 := by
        apply UInt8.toNat_inj.1
        show _ = 0
        omega
      unfold slStr
      refine ⟨⟨by omega, by rw [hsz]; omega⟩, ?_⟩
      rw [Int.toNat_natCast, bs_extract0, List.take_take, show min (m - 1) m = m - 1 from by omega]
      refine ⟨⟨m - 1, rfl, by omega, fun j hj hmj => ?_, rfl⟩, ?_⟩
      · by_cases hjm : m ≤ j
        · exact hz j hj hjm
        · have : j = m - 1 := by omega
          subst this; exact hc
      · dsimp only
        rw [bs_size, List.length_take, bs_size, List.length_take]; omega
    · exact hK m hm hz (.inr ⟨hm1, fun hc => h0 (by rw [hc]; rfl)⟩)
  · exact hK m hm hz (.inl (by omega))

theorem trimLeft_spec {l : List UInt8} {K : VK} (hl : l.length < 1099511627776) (hK : ∀ m, m ≤ l.length → (∀ j (h : j < l.length), j < m → l[j] = 0) → (m = l.length ∨ ∃ h : m < l.length, l[m] ≠ 0) → K (.string (bs (l.drop m))) w) : strings_trimLeftByte (bs l) 0 K w := by
  unfold strings_trimLeftByte
  refine ⟨fun us w' => ∃ m : Nat, us = [.string (bs (l.drop m)), .string .empty] ∧ m ≤ l.length ∧ (∀ j (h : j < l.length), j < m → l[j] = 0) ∧ isW w w', fun us _ => match us with | [.string s, _] => s.size | _ => 0,
    ⟨0, rfl, Nat.zero_le _, fun j h hj => by omega, rfl⟩, ?_⟩
  rintro s2 s3 w2 ⟨m, he, hm, hz, hw⟩
  obtain rfl : w2 = w := hw
  cases he
  have hsz : (bs (l.drop m)).size = l.length - m := by rw [bs_size, List.length_drop]
  refine br_dec (fun hpos => ?_) (fun hneg => ?_)
  · rw [hsz] at hpos
    have hm1 : m < l.length := by omega
    refine ⟨l[m], ⟨by omega, ?_⟩, ?_⟩
    · show (l.drop m)[0]? = _
      rw [List.getElem?_drop, Nat.add_zero, List.getElem?_eq_getElem hm1]
    refine br_eq (fun h0 => ?_) (fun h0 => ?_)
    · have hc : l[m] = 0 := by
        apply UInt8.toNat_inj.1
        show _ = 0
        omega
      unfold slStr
      refine ⟨⟨by omega, by rw [hsz]; omega⟩, ?_⟩
      rw [show (1 : Int).toNat = 1 from rfl, bs_extractN, List.drop_drop]
      refine ⟨⟨m + 1, rfl, by omega, fun j hj hmj => ?_, rfl⟩, ?_⟩
      · by_cases hjm : j < m
        · exact hz j hj hjm
        · have : j = m := by omega
          subst this; exact hc
      · dsimp only
        rw [bs_size, List.length_drop, bs_size, List.length_drop]; omega
    · exact hK m hm hz (.inr ⟨hm1, fun hc => h0 (by rw [hc]; rfl)⟩)
  · rw [hsz] at hneg
    exact hK m hm hz (.inl (by omega))

theorem Trim_spec {l : List UInt8} {K : VK} (h : St W w L) (hl : l.length < 1099511627776) (hK : ∀ r w', (r = .empty ↔ l = List.replicate l.length 0) → St W w' L → K (.string r) w') : strings_Trim (bs l) ⟨#[0]⟩ K w := by
  unfold strings_Trim
  have e0 : strEq (⟨#[0]⟩ : ByteArray) (⟨#[]⟩ : ByteArray) = false := by rw [strEq_iff]; exact decide_eq_false (fun h => absurd (congrArg ByteArray.size h) (by decide))
  rw [e0, strEq_iff]
  refine br_dec (fun hem => ?_) (fun hne => ?_)
  · unfold strings_Trim.j1
    rw [br_true]
    have : l = [] := bs_inj.1 hem
    subst this
    exact hK _ w (by simp [empty_bs]) h
  · unfold strings_Trim.j1
    rw [br_false]
    have e1 : ((((⟨#[0]⟩ : ByteArray).size : Nat) : Int) == 1) = true := by decide
    rw [e1, br_true]
    refine ⟨0, ⟨by decide, rfl⟩, ?_⟩
    have e2 : decide (((0 : UInt8).toNat : Int) < 128) = true := by decide
    dsimp only
    rw [e2]
    unfold strings_Trim.j3
    rw [br_true]
    refine tick_of h fun w h => ?_
    refine ⟨0, ⟨by decide, rfl⟩, ?_⟩
    refine ⟨0, ⟨by decide, rfl⟩, ?_⟩
    refine trimRight_spec hl fun m hm hz hlast => ?_
    simp only [nn_some, add_mk, Nat.zero_add, Nat.add_zero, Nat.reduceAdd, Nat.reduceMul, Option.isNone_some, Option.isNone_none, br_true, br_false, Bool.not_true, Bool.not_false, xI_eq, xB_eq, xS_eq, xP_eq, xL_eq, x0_eq, x2_eq, x3_eq, chk_eq, true_and, and_true, List.set_cons_zero, List.set_cons_succ, List.eraseIdx_cons_zero, List.eraseIdx_cons_succ]
    refine trimLeft_spec (by rw [List.length_take]; omega) fun q hq hz2 hfirst => ?_
    simp only [nn_some, add_mk, Nat.zero_add, Nat.add_zero, Nat.reduceAdd, Nat.reduceMul, Option.isNone_some, Option.isNone_none, br_true, br_false, Bool.not_true, Bool.not_false, xI_eq, xB_eq, xS_eq, xP_eq, xL_eq, x0_eq, x2_eq, x3_eq, chk_eq, true_and, and_true, List.set_cons_zero, List.set_cons_succ, List.eraseIdx_cons_zero, List.eraseIdx_cons_succ]
    refine hK _ w ?_ h
    have hlt : (l.take m).length = m := by rw [List.length_take]; omega
    rw [empty_bs, bs_inj]
    constructor
    · intro hd
      have hqm : q = m := by have := congrArg List.length hd; rw [List.length_drop, List.length_nil] at this; omega
      subst hqm
      rcases hlast with h0 | ⟨h1, h2⟩
      · subst h0
        exact List.eq_replicate_iff.2 ⟨rfl, fun x hx => by
          obtain ⟨j, hj, rfl⟩ := List.mem_iff_getElem.1 hx
          exact hz j hj (Nat.zero_le _)⟩
      · exfalso
        have hq0 : 0 < q := by
          rcases Nat.eq_zero_or_pos q with h0 | h0
          · subst h0
            exact absurd (hz _ h1 (by omega)) h2
          · exact h0
        have := hz2 (q - 1) (by omega) (by omega)
        rw [List.getElem_take] at this
        exact h2 this
    · intro hall
      have hz0 : ∀ j (hj : j < l.length), l[j] = 0 := fun j hj => (List.eq_replicate_iff.1 hall).2 _ (List.getElem_mem hj)
      rcases hfirst with h0 | ⟨h1, h2⟩
      · rw [List.drop_of_length_le (by omega)]
      · exfalso
        rw [List.getElem_take] at h2
        exact h2 (hz0 q _)

/-! ### A check sum that holds -/

def holdsL (l : List UInt8) : Bool := decide (4 ≤ l.length) && (le32 (sum32 0 (l.take (l.length - 4))) == l.drop (l.length - 4))

theorem Holds_spec {l : List UInt8} {K : VK} (h : St W w L) (hl : l.length < 1099511627776) (hK : ∀ w', St W w' L → K (.bool (holdsL l)) w') : castag_Holds (bs l) K w := by
  unfold castag_Holds
  refine tick_of h fun w h => ?_
  have ew : IntKind.i64.wrap (((bs l).size : Int) - 4) = (l.length : Int) - 4 := by rw [bs_size, wrap_id (by omega)]
  rw [ew]
  refine br_dec (fun h0 => ?_) (fun h0 => ?_)
  · have e1 : ((l.length : Int) - 4).toNat = l.length - 4 := by omega
    unfold slStr
    dsimp only
    refine ⟨⟨h0, by rw [bs_size]; omega⟩, ?_⟩
    refine ⟨⟨h0, by rw [bs_size]; omega⟩, ?_⟩
    rw [e1, bs_extract0, bs_extractN]
    refine Sum_spec (by rw [bs_size, List.length_take]; omega) ?_
    simp only [nn_some, add_mk, Nat.zero_add, Nat.add_zero, Nat.reduceAdd, Nat.reduceMul, Option.isNone_some, Option.isNone_none, br_true, br_false, Bool.not_true, Bool.not_false, xI_eq, xB_eq, xS_eq, xP_eq, xL_eq, x0_eq, x2_eq, x3_eq, chk_eq, true_and, and_true, List.set_cons_zero, List.set_cons_succ, List.eraseIdx_cons_zero, List.eraseIdx_cons_succ]
    refine castBytes_spec h (u32_wrap_in _) fun w h => ?_
    simp only [nn_some, add_mk, Nat.zero_add, Nat.add_zero, Nat.reduceAdd, Nat.reduceMul, Option.isNone_some, Option.isNone_none, br_true, br_false, Bool.not_true, Bool.not_false, xI_eq, xB_eq, xS_eq, xP_eq, xL_eq, x0_eq, x2_eq, x3_eq, chk_eq, true_and, and_true, List.set_cons_zero, List.set_cons_succ, List.eraseIdx_cons_zero, List.eraseIdx_cons_succ]
    have e2 : strEq (bs (le32 (sum32 0 (bs (l.take (l.length - 4))).data.toList))) (bs (l.drop (l.length - 4))) = holdsL l := by
      rw [strEq_iff]
      unfold holdsL
      rw [decide_eq_true (by omega : 4 ≤ l.length), Bool.true_and]
      show decide (bs (le32 (sum32 0 (l.take (l.length - 4)))) = bs (l.drop (l.length - 4))) = _
      by_cases hh : le32 (sum32 0 (l.take (l.length - 4))) = l.drop (l.length - 4)
      · rw [decide_eq_true (bs_inj.2 hh), hh, beq_self_eq_true]
      · rw [decide_eq_false (fun h => hh (bs_inj.1 h))]
        symm; simp [hh]
    rw [e2]
    exact hK w h
  · have e2 : holdsL l = false := by unfold holdsL; rw [decide_eq_false (by omega : ¬ 4 ≤ l.length)]; rfl
    rw [← e2]; exact hK w h

theorem Int_at {r : Nat} {l : List UInt8} {n : Nat} {K : VK} (h : St W w L) (hk : L[k]? = some (rdr r (bs l) false)) (h1 : 1 ≤ n) (h8 : n ≤ 8) (hn : n ≤ l.length)
    (hK : ∀ w', St W w' (L.set k (rdr r (bs (l.drop n)) false)) → K (.int .i64 (numL (l.take n))) w') : tape_Reader_Int (some ⟨r, 0, none⟩) n K w := by
  refine Int_spec h hk ?_
  have em : min2 (max2 (n : Int) 1) 8 = n := by unfold min2 max2; split <;> split <;> omega
  rw [em]
  have et : rawT (bs l) false n = false := by unfold rawT; rw [bs_size, decide_eq_false (by omega)]; rfl
  unfold rawS rawV
  rw [et, Int.toNat_natCast, bs_extract0, bs_extractN]
  exact hK

theorem Raw_at {r : Nat} {l : List UInt8} {n : Nat} {K : VK} (h : St W w L) (hk : L[k]? = some (rdr r (bs l) false)) (hn : n ≤ l.length)
    (hK : ∀ w', St W w' (L.set k (rdr r (bs (l.drop n)) false)) → K (.string (bs (l.take n))) w') : tape_Reader_Raw (some ⟨r, 0, none⟩) n K w := by
  refine Raw_spec h hk ?_
  have et : rawT (bs l) false n = false := by unfold rawT; rw [bs_size, decide_eq_false (by omega)]; rfl
  unfold rawS rawV
  rw [et, Int.toNat_natCast, bs_extract0, bs_extractN]
  exact hK
end
end Go.Sep
