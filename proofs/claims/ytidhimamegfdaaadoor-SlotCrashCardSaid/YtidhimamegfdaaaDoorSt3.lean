/- Layer 5: readers, the ends of a sector, the greatest number. -/
import Derived.Test.YtidhimamegfdaaaDoorSt2
namespace Go.Sep
open Go.Den Go.RowKit Go.Prog Go.Plat
set_option linter.unusedSimpArgs false
set_option linter.unusedVariables false

section
variable {W w : World} {L : List HP} {k : Nat}

theorem heap_freeze (w : World) (a : Addr) (n j : Nat) (hj : j ≠ a.block) : (w.freeze a n).heap[j]? = w.heap[j]? := by
  unfold World.freeze
  split
  · rfl
  · simp only [Array.getElem?_modify]
    rw [if_neg (fun h => hj h.symm)]

theorem s2b_of {s : ByteArray} {K : Nat → Nat → WK} (h : St W w L) (hK : ∀ r c w', St W w' (own (some ⟨r, 0, none⟩) s.size c 1 (s.data.toList.map u8v) :: L) → K r c w') : s2b s K w := by
  intro c t hc
  have h1 := h.drew.new ((s.data.toList.map u8v) ++ List.replicate (c - s.size) (.int .u8 0)) t
  have hsz : s.data.toList.length = s.size := rfl
  have ecells : ((strCells s).toArray ++ Array.replicate (c - s.size) (.int .u8 0) : Array Value) = ⟨(s.data.toList.map u8v) ++ List.replicate (c - s.size) (.int .u8 0)⟩ := by
    apply Array.ext'
    rw [Array.toList_append, Array.toList_replicate]
    rfl
  rw [ecells]
  generalize hcs : (s.data.toList.map u8v) ++ List.replicate (c - s.size) (Value.int .u8 0) = cs at *
  have hlen : cs.length = c := by rw [← hcs]; simp; omega
  have hhp : (w.drew.alloc (.cells ⟨cs⟩ t)).heap[w.heap.size]? = some (.cells ⟨cs⟩ t) := by
    show (w.heap.push (.cells ⟨cs⟩ t))[w.heap.size]? = _
    rw [Array.getElem?_push_size]
  have hv' : view ((w.drew.alloc (.cells ⟨cs⟩ t)).freeze ⟨w.heap.size, c, none⟩ 1) w.heap.size = some cs := by
    unfold view World.freeze
    rw [if_neg (by decide)]
    simp only [Array.getElem?_modify, hhp]
    simp [hlen]
  have hb := h1.1
  have h2 := h1.turn (k := 0) rfl (w' := (w.drew.alloc (.cells ⟨cs⟩ t)).freeze ⟨w.heap.size, c, none⟩ 1) ?_ hv' (fun j hj _ => heap_freeze _ _ _ _ hj)
  · refine hK _ _ _ ?_
    refine St.mono (A := pt w.heap.size cs) h2 fun g hp => ⟨by rw [List.length_map]; omega, .inr ⟨_, List.replicate (c - s.size) (.int .u8 0), rfl, hc, by simp, ?_⟩⟩
    rw [hcs]; exact hp
  · refine ⟨?_, ?_, ?_, ?_, fun j hj => ?_⟩
    · unfold World.freeze; rw [if_neg (by decide)]; exact hb.os
    · unfold World.freeze; rw [if_neg (by decide)]; exact hb.tape
    · unfold World.freeze; rw [if_neg (by decide)]; exact hb.output
    · unfold World.freeze; rw [if_neg (by decide)]; simp only [Array.size_modify]; exact hb.size
    · rw [heap_freeze _ _ _ _ (by have := h.1.size; simp only; omega)]; exact hb.block j hj

/-! ### Readers -/

def rdr (r : Nat) (s : ByteArray) (t : Bool) : HP := pt r [.string s, .bool t]

def rawT (s : ByteArray) (t : Bool) (n : Int) : Bool := t || decide (n < 0 ∨ (s.size : Int) < n)
def rawV (s : ByteArray) (t : Bool) (n : Int) : ByteArray := if rawT s t n then .empty else s.extract 0 n.toNat
def rawS (s : ByteArray) (t : Bool) (n : Int) : ByteArray := if rawT s t n then s else s.extract n.toNat s.size

theorem tRead_spec {s : ByteArray} {K : VK} (h : St W w L) (hK : ∀ r w', St W w' (rdr r s false :: L) → K (.pointer (some ⟨r, 0, none⟩)) w') : tape_Read s K w := by
  unfold tape_Read
  exact ⟨⟨rfl, trivial⟩, mk_of h fun r w hs => hK r w hs⟩

theorem Raw_spec {r : Nat} {s : ByteArray} {t : Bool} {n : Int} {K : VK} (h : St W w L) (hk : L[k]? = some (rdr r s t)) (hK : ∀ w', St W w' (L.set k (rdr r (rawS s t n) (rawT s t n))) → K (.string (rawV s t n)) w') : tape_Reader_Raw (some ⟨r, 0, none⟩) n K w := by
  unfold tape_Reader_Raw
  unfold rdr at hk
  simp only [nn_some, add_mk, Nat.zero_add, Nat.add_zero, Nat.reduceAdd, Nat.reduceMul, Option.isNone_some, Option.isNone_none, br_true, br_false, Bool.not_true, Bool.not_false, xI_eq, xB_eq, xS_eq, xP_eq, xL_eq, x0_eq, x2_eq, x3_eq, chk_eq, true_and, and_true, List.set_cons_zero, List.set_cons_succ, List.eraseIdx_cons_zero, List.eraseIdx_cons_succ]
  refine ld_pt hk (h := h) rfl ?_
  simp only [nn_some, add_mk, Nat.zero_add, Nat.add_zero, Nat.reduceAdd, Nat.reduceMul, Option.isNone_some, Option.isNone_none, br_true, br_false, Bool.not_true, Bool.not_false, xI_eq, xB_eq, xS_eq, xP_eq, xL_eq, x0_eq, x2_eq, x3_eq, chk_eq, true_and, and_true, List.set_cons_zero, List.set_cons_succ, List.eraseIdx_cons_zero, List.eraseIdx_cons_succ]
  have bad : rawT s t n = true → ∀ w', St W w' (L.set k (pt r [.string s, .bool true])) → K (.string .empty) w' := fun hb w' hs => by
    have := hK w'
    unfold rawS rawV at this
    rw [if_pos hb, if_pos hb, hb] at this
    exact this hs
  refine br_of (fun ht => ?_) (fun ht => ?_)
  · refine st_pt h hk (Nat.le_of_ble_eq_true rfl) rfl fun w hs => ?_
    refine ld_pt hs (set_get hk) rfl ?_
    simp only [nn_some, add_mk, Nat.zero_add, Nat.add_zero, Nat.reduceAdd, Nat.reduceMul, Option.isNone_some, Option.isNone_none, br_true, br_false, Bool.not_true, Bool.not_false, xI_eq, xB_eq, xS_eq, xP_eq, xL_eq, x0_eq, x2_eq, x3_eq, chk_eq, true_and, and_true, List.set_cons_zero, List.set_cons_succ, List.eraseIdx_cons_zero, List.eraseIdx_cons_succ] at hs ⊢
    exact bad (by simp [rawT, ht]) w hs
  refine br_dec (fun hn => ?_) (fun hn => ?_)
  · refine st_pt h hk (Nat.le_of_ble_eq_true rfl) rfl fun w hs => ?_
    refine ld_pt hs (set_get hk) rfl ?_
    simp only [nn_some, add_mk, Nat.zero_add, Nat.add_zero, Nat.reduceAdd, Nat.reduceMul, Option.isNone_some, Option.isNone_none, br_true, br_false, Bool.not_true, Bool.not_false, xI_eq, xB_eq, xS_eq, xP_eq, xL_eq, x0_eq, x2_eq, x3_eq, chk_eq, true_and, and_true, List.set_cons_zero, List.set_cons_succ, List.eraseIdx_cons_zero, List.eraseIdx_cons_succ] at hs ⊢
    exact bad (by simp [rawT, hn]) w hs
  refine ld_pt h hk rfl ?_
  simp only [nn_some, add_mk, Nat.zero_add, Nat.add_zero, Nat.reduceAdd, Nat.reduceMul, Option.isNone_some, Option.isNone_none, br_true, br_false, Bool.not_true, Bool.not_false, xI_eq, xB_eq, xS_eq, xP_eq, xL_eq, x0_eq, x2_eq, x3_eq, chk_eq, true_and, and_true, List.set_cons_zero, List.set_cons_succ, List.eraseIdx_cons_zero, List.eraseIdx_cons_succ]
  refine st_pt h hk (Nat.le_of_ble_eq_true rfl) rfl fun w hs => ?_
  refine ld_pt hs (set_get hk) rfl ?_
  simp only [nn_some, add_mk, Nat.zero_add, Nat.add_zero, Nat.reduceAdd, Nat.reduceMul, Option.isNone_some, Option.isNone_none, br_true, br_false, Bool.not_true, Bool.not_false, xI_eq, xB_eq, xS_eq, xP_eq, xL_eq, x0_eq, x2_eq, x3_eq, chk_eq, true_and, and_true, List.set_cons_zero, List.set_cons_succ, List.eraseIdx_cons_zero, List.eraseIdx_cons_succ] at hs ⊢
  refine br_dec (fun hgt => ?_) (fun hgt => ?_)
  · have : decide (n > (s.size : Int)) = true := decide_eq_true hgt
    rw [this] at hs
    exact bad (by simp [rawT]; omega) w hs
  · have e : decide (n > (s.size : Int)) = false := decide_eq_false hgt
    rw [e] at hs
    have hb : rawT s t n = false := by
      unfold rawT
      rw [ht, decide_eq_false (by omega)]; rfl
    have := hK
    unfold rawS rawV at this
    rw [if_neg (by rw [hb]; exact Bool.false_ne_true), if_neg (by rw [hb]; exact Bool.false_ne_true), hb] at this
    unfold tape_Reader_Raw.j1
    simp only [nn_some, add_mk, Nat.zero_add, Nat.add_zero, Nat.reduceAdd, Nat.reduceMul, Option.isNone_some, Option.isNone_none, br_true, br_false, Bool.not_true, Bool.not_false, xI_eq, xB_eq, xS_eq, xP_eq, xL_eq, x0_eq, x2_eq, x3_eq, chk_eq, true_and, and_true, List.set_cons_zero, List.set_cons_succ, List.eraseIdx_cons_zero, List.eraseIdx_cons_succ]
    refine ld_pt hs (set_get hk) rfl ?_
    unfold slStr
    simp only [nn_some, add_mk, Nat.zero_add, Nat.add_zero, Nat.reduceAdd, Nat.reduceMul, Option.isNone_some, Option.isNone_none, br_true, br_false, Bool.not_true, Bool.not_false, xI_eq, xB_eq, xS_eq, xP_eq, xL_eq, x0_eq, x2_eq, x3_eq, chk_eq, true_and, and_true, List.set_cons_zero, List.set_cons_succ, List.eraseIdx_cons_zero, List.eraseIdx_cons_succ]
    refine ⟨by omega, ?_⟩
    refine ld_pt hs (set_get hk) rfl ?_
    simp only [nn_some, add_mk, Nat.zero_add, Nat.add_zero, Nat.reduceAdd, Nat.reduceMul, Option.isNone_some, Option.isNone_none, br_true, br_false, Bool.not_true, Bool.not_false, xI_eq, xB_eq, xS_eq, xP_eq, xL_eq, x0_eq, x2_eq, x3_eq, chk_eq, true_and, and_true, List.set_cons_zero, List.set_cons_succ, List.eraseIdx_cons_zero, List.eraseIdx_cons_succ]
    refine ⟨by omega, ?_⟩
    refine st_pt hs (set_get hk) (Nat.le_of_ble_eq_true rfl) rfl fun w hs => ?_
    rw [List.set_set] at hs
    exact this w hs

/-- A number's bytes, the lowest first. -/
def valL : List UInt8 → Nat
  | [] => 0
  | c :: r => c.toNat + 256 * valL r

theorem valL_lt : ∀ l : List UInt8, valL l < 256 ^ l.length
  | [] => by simp [valL]
  | c :: r => by
    have := valL_lt r
    have hc := c.toNat_lt
    simp only [valL, List.length_cons, Nat.pow_succ]
    omega

theorem valL_append : ∀ (l : List UInt8) (c : UInt8), valL (l ++ [c]) = valL l + c.toNat * 256 ^ l.length
  | [], c => by simp [valL]
  | d :: r, c => by
    simp only [List.cons_append, valL, valL_append r c, List.length_cons, Nat.pow_succ]
    rw [Nat.mul_add, Nat.add_assoc]
    congr 2
    rw [Nat.mul_comm 256, Nat.mul_assoc]

theorem ofInt_wrap64 (z : Int) : BitVec.ofInt 64 (IntKind.i64.wrap z) = BitVec.ofInt 64 z := by
  apply BitVec.eq_of_toNat_eq
  simp only [BitVec.toNat_ofInt]
  simp [IntKind.wrap, IntKind.bits, IntKind.signed]
  split <;> omega

theorem or_step {A j : Nat} {c : UInt8} (hj : j < 8) (hA : A < 256 ^ j) : isum .i64 .or (IntKind.i64.wrap A) (shl .i64 (IntKind.i64.wrap (c.toNat : Int)) (8 * (j : Int))) = IntKind.i64.wrap ((A + c.toNat * 256 ^ j : Nat) : Int) := by
  have hc := c.toNat_lt
  have hpow : 256 ^ j = 2 ^ (8 * j) := by rw [show (256 : Nat) = 2 ^ 8 from rfl, ← Nat.pow_mul]
  have hp64 : c.toNat * 2 ^ (8 * j) < 2 ^ 64 := by
    have h1 : c.toNat * 2 ^ (8 * j) < 2 ^ 8 * 2 ^ (8 * j) := Nat.mul_lt_mul_of_pos_right (by exact hc) (Nat.pow_pos (by decide))
    rw [← Nat.pow_add] at h1
    exact Nat.lt_of_lt_of_le h1 (Nat.pow_le_pow_right (by decide) (by omega))
  have hA64 : A < 2 ^ 64 := by
    rw [hpow] at hA
    exact Nat.lt_of_lt_of_le hA (Nat.pow_le_pow_right (by decide) (by omega))
  have ew : IntKind.i64.wrap (c.toNat : Int) = (c.toNat : Int) := wrap_id (by omega)
  have esh : shl .i64 (c.toNat : Int) (8 * (j : Int)) = IntKind.i64.wrap ((c.toNat * 2 ^ (8 * j) : Nat) : Int) := by
    unfold shl
    have h1 : (8 * (j : Int)).toNat = 8 * j := by omega
    have h2 : min (8 * j) IntKind.i64.bits = 8 * j := by show min (8 * j) 64 = _; omega
    rw [h1, h2]
    congr 1
  rw [ew, esh]
  show IntKind.i64.wrap (((BitVec.ofInt 64 (IntKind.i64.wrap A) ||| BitVec.ofInt 64 (IntKind.i64.wrap ((c.toNat * 2 ^ (8 * j) : Nat) : Int))).toNat : Nat) : Int) = _
  rw [ofInt_wrap64, ofInt_wrap64, BitVec.toNat_or]
  have t1 : (BitVec.ofInt 64 (A : Int)).toNat = A := by simp only [BitVec.toNat_ofInt]; omega
  have t2 : (BitVec.ofInt 64 ((c.toNat * 2 ^ (8 * j) : Nat) : Int)).toNat = c.toNat * 2 ^ (8 * j) := by
    generalize c.toNat * 2 ^ (8 * j) = z at *
    simp only [BitVec.toNat_ofInt]; omega
  rw [t1, t2, hpow]
  congr 2
  rw [Nat.or_comm, ← Nat.shiftLeft_eq, ← Nat.shiftLeft_add_eq_or_of_lt (by rw [← hpow]; exact hA), Nat.add_comm]

def numL (l : List UInt8) : Int := IntKind.i64.wrap (valL l : Int)

theorem Int_spec {r : Nat} {s : ByteArray} {t : Bool} {n : Int} {K : VK} (h : St W w L) (hk : L[k]? = some (rdr r s t))
    (hK : ∀ w', St W w' (L.set k (rdr r (rawS s t (min2 (max2 n 1) 8)) (rawT s t (min2 (max2 n 1) 8)))) → K (.int .i64 (numL (rawV s t (min2 (max2 n 1) 8)).data.toList)) w') : tape_Reader_Int (some ⟨r, 0, none⟩) n K w := by
  have hm : 1 ≤ min2 (max2 n 1) 8 ∧ min2 (max2 n 1) 8 ≤ 8 := by unfold min2 max2; split <;> split <;> omega
  unfold tape_Reader_Int
  generalize min2 (max2 n 1) 8 = m at *
  refine Raw_spec h hk fun w hs => ?_
  simp only [nn_some, add_mk, Nat.zero_add, Nat.add_zero, Nat.reduceAdd, Nat.reduceMul, Option.isNone_some, Option.isNone_none, br_true, br_false, Bool.not_true, Bool.not_false, xI_eq, xB_eq, xS_eq, xP_eq, xL_eq, x0_eq, x2_eq, x3_eq, chk_eq, true_and, and_true, List.set_cons_zero, List.set_cons_succ, List.eraseIdx_cons_zero, List.eraseIdx_cons_succ]
  have hv8 : (rawV s t m).size ≤ 8 := by
    unfold rawV
    split
    · exact Nat.zero_le _
    · rw [strEx]; omega
  have hK' := hK
  generalize rawV s t m = v at *
  refine s2b_of hs fun q c w hs => ?_
  have hlen : v.data.toList.length = v.size := rfl
  refine ⟨fun us w' => ∃ j : Nat, us = [.int .i64 0, .int .i64 (numL (v.data.toList.take j)), .slice (some ⟨q, 0, none⟩) v.size c, .int .i64 v.size, .int .i64 j] ∧ j ≤ v.size ∧ isW w w',
    fun us _ => match us with | [_, _, _, _, .int _ j] => v.size - j.toNat | _ => 0, ⟨0, rfl, Nat.zero_le _, rfl⟩, ?_⟩
  rintro n2 n3 sb1 sn1 sc1 n4 n5 w2 ⟨j, he, hj, hw⟩
  obtain rfl : w2 = w := hw
  cases he
  generalize hb : decide ((j : Int) < (v.size : Int)) = b
  cases b
  · have hge := of_decide_eq_false hb
    rw [br_false]
    rw [List.take_of_length_le (by omega)]
    exact hK' _ hs.drop
  · have hlt := of_decide_eq_true hb
    rw [br_true]
    have hjl : j < v.data.toList.length := by omega
    refine ixs_own (k := 0) hs rfl (by omega) fun r' hr => ?_
    cases hr
    refine ld_own (k := 0) hs rfl (v := u8v (v.data.toList[j])) (by rw [Int.toNat_natCast, Nat.mul_one, List.getElem?_map, List.getElem?_eq_getElem hjl]; rfl) ?_
    unfold u8v
    simp only [nn_some, add_mk, Nat.zero_add, Nat.add_zero, Nat.reduceAdd, Nat.reduceMul, Option.isNone_some, Option.isNone_none, br_true, br_false, Bool.not_true, Bool.not_false, xI_eq, xB_eq, xS_eq, xP_eq, xL_eq, x0_eq, x2_eq, x3_eq, chk_eq, true_and, and_true, List.set_cons_zero, List.set_cons_succ, List.eraseIdx_cons_zero, List.eraseIdx_cons_succ]
    have e8 : IntKind.i64.wrap (8 * (j : Int)) = 8 * (j : Int) := wrap_id (by omega)
    have e5 : IntKind.i64.wrap ((j : Int) + 1) = ((j + 1 : Nat) : Int) := by rw [wrap_id (by omega)]; omega
    rw [e8, e5]
    refine ⟨by omega, ?_⟩
    have hvl := valL_lt (v.data.toList.take j)
    have htl : (v.data.toList.take j).length = j := by rw [List.length_take]; omega
    rw [htl] at hvl
    have e6 : isum .i64 .or (numL (v.data.toList.take j)) (shl .i64 (IntKind.i64.wrap ((v.data.toList[j]).toNat : Int)) (8 * (j : Int))) = numL (v.data.toList.take (j + 1)) := by
      unfold numL
      rw [or_step (by omega) hvl, List.take_succ_eq_append_getElem hjl, valL_append, htl]
    rw [e6]
    exact ⟨⟨j + 1, rfl, by omega, rfl⟩, by omega⟩

/-! ### Numbers at a sector's ends -/

def numOf (s : ByteArray) : Int := if 1 ≤ numL s.data.toList ∧ numL s.data.toList ≤ 1152921504606846976 then numL s.data.toList else 0

theorem u64w {n : Int} (h : 0 ≤ n ∧ n < 18446744073709551616) : IntKind.u64.wrap n = n := by
  simp [IntKind.wrap, IntKind.bits, IntKind.signed]; omega

theorem Back_spec {s : ByteArray} {K : VK} (hs : s.size ≤ 8) (hK : K (.int .i64 (numL s.data.toList)) w) : bondstoreref03_Back s K w := by
  unfold bondstoreref03_Back
  have hlen : s.data.toList.length = s.size := rfl
  have e1 : IntKind.i64.wrap ((s.size : Int) - 1) = (s.size : Int) - 1 := wrap_id (by omega)
  rw [e1]
  refine ⟨fun us w' => ∃ j : Nat, us = [.int .i64 0, .int .u64 (valL (s.data.toList.drop j) : Int), .int .i64 ((j : Int) - 1)] ∧ j ≤ s.size ∧ isW w w',
    fun us _ => match us with | [_, _, .int _ j] => (j + 1).toNat | _ => 0, ⟨s.size, ?_, Nat.le_refl _, rfl⟩, ?_⟩
  · rw [List.drop_of_length_le (by omega)]; rfl
  rintro n1 n2 n3 w2 ⟨j, he, hj, hw⟩
  obtain rfl : w2 = w := hw
  cases he
  generalize hb : decide ((j : Int) - 1 ≥ 0) = b
  cases b
  · have hge := of_decide_eq_false hb
    rw [br_false]
    have hj0 : j = 0 := by omega
    subst hj0
    exact hK
  · have hlt := of_decide_eq_true hb
    rw [br_true]
    obtain ⟨i, rfl⟩ : ∃ i, j = i + 1 := ⟨j - 1, by omega⟩
    have hil : i < s.data.toList.length := by omega
    refine ⟨s.data.toList[i], ⟨by omega, by rw [show (((i + 1 : Nat) : Int) - 1).toNat = i from by omega]; exact List.getElem?_eq_getElem hil⟩, ?_⟩
    have hd : s.data.toList.drop i = s.data.toList[i] :: s.data.toList.drop (i + 1) := List.drop_eq_getElem_cons hil
    have hv := valL_lt (s.data.toList.drop i)
    have hv1 : valL (s.data.toList.drop i) < 256 ^ 8 := Nat.lt_of_lt_of_le hv (Nat.pow_le_pow_right (by decide) (by rw [List.length_drop]; omega))
    have e2 : IntKind.u64.wrap (IntKind.u64.wrap ((valL (s.data.toList.drop (i + 1)) : Int) * 256) + IntKind.u64.wrap ((s.data.toList[i]).toNat : Int)) = (valL (s.data.toList.drop i) : Int) := by
      have hvs : valL (s.data.toList.drop i) = (s.data.toList[i]).toNat + 256 * valL (s.data.toList.drop (i + 1)) := by rw [hd]; rfl
      have h256 : (256 : Nat) ^ 8 = 18446744073709551616 := rfl
      rw [hvs] at hv1 ⊢
      rw [h256] at hv1
      have hcl : (s.data.toList[i]).toNat < 256 := (s.data.toList[i]).toNat_lt
      generalize (s.data.toList[i]).toNat = x at *
      generalize valL (s.data.toList.drop (i + 1)) = y at *
      rw [u64w (n := (y : Int) * 256) (by omega), u64w (n := (x : Int)) (by omega), u64w (by omega)]
      omega
    have e3 : IntKind.i64.wrap (((i + 1 : Nat) : Int) - 1 - 1) = (i : Int) - 1 := by rw [wrap_id (by omega)]; omega
    dsimp only
    rw [e2, e3]
    exact ⟨⟨i, rfl, by omega, rfl⟩, by omega⟩

theorem Number_spec {s : ByteArray} {K : VK} (hs : s.size ≤ 8) (hK : K (.int .i64 (numOf s)) w) : bondstoreref05_Number s K w := by
  unfold bondstoreref05_Number
  refine Back_spec hs ?_
  simp only [nn_some, add_mk, Nat.zero_add, Nat.add_zero, Nat.reduceAdd, Nat.reduceMul, Option.isNone_some, Option.isNone_none, br_true, br_false, Bool.not_true, Bool.not_false, xI_eq, xB_eq, xS_eq, xP_eq, xL_eq, x0_eq, x2_eq, x3_eq, chk_eq, true_and, and_true, List.set_cons_zero, List.set_cons_succ, List.eraseIdx_cons_zero, List.eraseIdx_cons_succ]
  unfold numOf at hK
  refine br_dec (fun h1 => ?_) (fun h1 => ?_)
  · rw [if_neg (by omega)] at hK; exact hK
  refine br_dec (fun h2 => ?_) (fun h2 => ?_)
  · rw [if_neg (by omega)] at hK; exact hK
  · rw [if_pos (by omega)] at hK; exact hK

def hd8 (s : ByteArray) : ByteArray := s.extract 0 8
def tl8 (s : ByteArray) : ByteArray := s.extract (s.size - 8) s.size

theorem ends_spec {s : ByteArray} {K : VK} (h : St W w L) (hs8 : 8 ≤ s.size) (hsz : s.size < 1099511627776) (hK : ∀ w', St W w' L → K (.agg ⟨[.int .i64 (numOf (hd8 s)), .int .i64 (numOf (tl8 s))]⟩) w') : stamp_ends s K w := by
  unfold stamp_ends
  refine mk_of h fun r1 w hs => ?_
  refine mk_of hs fun r2 w hs => ?_
  refine tick_of hs fun w hs => ?_
  unfold slStr
  simp only [nn_some, add_mk, Nat.zero_add, Nat.add_zero, Nat.reduceAdd, Nat.reduceMul, Option.isNone_some, Option.isNone_none, br_true, br_false, Bool.not_true, Bool.not_false, xI_eq, xB_eq, xS_eq, xP_eq, xL_eq, x0_eq, x2_eq, x3_eq, chk_eq, true_and, and_true, List.set_cons_zero, List.set_cons_succ, List.eraseIdx_cons_zero, List.eraseIdx_cons_succ]
  have e1 : IntKind.i64.wrap ((s.size : Int) - 8) = (s.size : Int) - 8 := wrap_id (by omega)
  rw [e1]
  refine ⟨by omega, by omega, ?_⟩
  have eh : s.extract 0 (8 : Int).toNat = hd8 s := rfl
  have et : s.extract ((s.size : Int) - 8).toNat s.size = tl8 s := by unfold tl8; congr 1; omega
  rw [eh, et]
  have h8 : (hd8 s).size = 8 := by unfold hd8; rw [strEx]; omega
  have t8 : (tl8 s).size = 8 := by unfold tl8; rw [strEx]; omega
  refine ⟨fun us w' => ∃ j : Nat, us = [.pointer (some ⟨r1, 0, none⟩), .pointer (some ⟨r2, 0, none⟩), .agg ⟨[.string (hd8 s), .string (tl8 s)]⟩, .int .i64 j] ∧ j ≤ 2 ∧
      St W w' (pt r2 [.int .i64 (if 0 < j then numOf (hd8 s) else 0), .int .i64 (if 1 < j then numOf (tl8 s) else 0)] :: pt r1 [.int .i64 0, .int .i64 0] :: L),
    fun us _ => match us with | [_, _, _, .int _ j] => 2 - j.toNat | _ => 0, ⟨0, rfl, Nat.zero_le _, hs⟩, ?_⟩
  rintro a1 a2 cs1 n1 w2 ⟨j, he, hj, hs⟩
  cases he
  refine br_of (fun h0 => ?_) (fun h0 => ?_)
  · have hj2 : j < 2 := by have := of_decide_eq_true h0; omega
    have e5 : IntKind.i64.wrap ((j : Int) + 1) = ((j + 1 : Nat) : Int) := by rw [wrap_id (by omega)]; omega
    rw [e5]
    obtain ⟨p, hp, hp8⟩ : ∃ p, ([Value.string (hd8 s), .string (tl8 s)] : List Value)[(j : Int).toNat]? = some (.string p) ∧ p.size = 8 ∧ (j = 0 → p = hd8 s) ∧ (j = 1 → p = tl8 s) := by
      match j, hj2 with
      | 0, _ => exact ⟨hd8 s, rfl, h8, fun _ => rfl, fun hh => by omega⟩
      | 1, _ => exact ⟨tl8 s, rfl, t8, fun hh => by omega, fun _ => rfl⟩
    refine ⟨.string p, ⟨by omega, by omega, hp⟩, ?_⟩
    simp only [nn_some, add_mk, Nat.zero_add, Nat.add_zero, Nat.reduceAdd, Nat.reduceMul, Option.isNone_some, Option.isNone_none, br_true, br_false, Bool.not_true, Bool.not_false, xI_eq, xB_eq, xS_eq, xP_eq, xL_eq, x0_eq, x2_eq, x3_eq, chk_eq, true_and, and_true, List.set_cons_zero, List.set_cons_succ, List.eraseIdx_cons_zero, List.eraseIdx_cons_succ]
    refine tRead_spec hs fun q w hs => ?_
    simp only [nn_some, add_mk, Nat.zero_add, Nat.add_zero, Nat.reduceAdd, Nat.reduceMul, Option.isNone_some, Option.isNone_none, br_true, br_false, Bool.not_true, Bool.not_false, xI_eq, xB_eq, xS_eq, xP_eq, xL_eq, x0_eq, x2_eq, x3_eq, chk_eq, true_and, and_true, List.set_cons_zero, List.set_cons_succ, List.eraseIdx_cons_zero, List.eraseIdx_cons_succ]
    refine Int_spec (k := 0) hs rfl fun w hs => ?_
    have em : min2 (max2 8 1) 8 = 8 := rfl
    have ev : rawV p false (min2 (max2 8 1) 8) = p := by
      rw [em]
      unfold rawV
      have : rawT p false 8 = false := by unfold rawT; rw [hp8.1]; rfl
      rw [if_neg (by rw [this]; exact Bool.false_ne_true)]
      have : (8 : Int).toNat = p.size := by rw [hp8.1]; rfl
      rw [this]; exact ByteArray.extract_zero_size
    rw [ev]
    simp only [nn_some, add_mk, Nat.zero_add, Nat.add_zero, Nat.reduceAdd, Nat.reduceMul, Option.isNone_some, Option.isNone_none, br_true, br_false, Bool.not_true, Bool.not_false, xI_eq, xB_eq, xS_eq, xP_eq, xL_eq, x0_eq, x2_eq, x3_eq, chk_eq, true_and, and_true, List.set_cons_zero, List.set_cons_succ, List.eraseIdx_cons_zero, List.eraseIdx_cons_succ] at hs ⊢
    have hs := hs.drop
    have fin : ∀ x w', x = numOf p → St W w' (pt r2 ([.int .i64 (if 0 < j then numOf (hd8 s) else 0), .int .i64 (if 1 < j then numOf (tl8 s) else 0)].set j (.int .i64 x)) :: pt r1 [.int .i64 0, .int .i64 0] :: L) →
        St W w' (pt r2 [.int .i64 (if 0 < j + 1 then numOf (hd8 s) else 0), .int .i64 (if 1 < j + 1 then numOf (tl8 s) else 0)] :: pt r1 [.int .i64 0, .int .i64 0] :: L) := fun x w' hx hs => by
      subst hx
      match j, hj2, hp8, hs with
      | 0, _, hp8, hs => rw [hp8.2.1 rfl] at hs; simpa using hs
      | 1, _, hp8, hs => rw [hp8.2.2 rfl] at hs; simpa using hs
    have zero : numOf p = 0 → ∀ w', St W w' (pt r2 [.int .i64 (if 0 < j then numOf (hd8 s) else 0), .int .i64 (if 1 < j then numOf (tl8 s) else 0)] :: pt r1 [.int .i64 0, .int .i64 0] :: L) →
        St W w' (pt r2 [.int .i64 (if 0 < j + 1 then numOf (hd8 s) else 0), .int .i64 (if 1 < j + 1 then numOf (tl8 s) else 0)] :: pt r1 [.int .i64 0, .int .i64 0] :: L) := fun hz w' hs => by
      refine fin 0 w' hz.symm ?_
      match j, hj2, hs with
      | 0, _, hs => simpa using hs
      | 1, _, hs => simpa using hs
    refine br_dec (fun h1 => ?_) (fun h1 => ?_)
    · refine br_dec (fun h2 => ?_) (fun h2 => ?_)
      · refine ⟨by omega, ?_⟩
        refine st_pt (k := 0) hs rfl (by simp; omega) rfl fun w hs => ?_
        simp only [nn_some, add_mk, Nat.zero_add, Nat.add_zero, Nat.reduceAdd, Nat.reduceMul, Option.isNone_some, Option.isNone_none, br_true, br_false, Bool.not_true, Bool.not_false, xI_eq, xB_eq, xS_eq, xP_eq, xL_eq, x0_eq, x2_eq, x3_eq, chk_eq, true_and, and_true, List.set_cons_zero, List.set_cons_succ, List.eraseIdx_cons_zero, List.eraseIdx_cons_succ] at hs
        rw [Int.toNat_natCast, Nat.mul_one] at hs
        refine ⟨⟨j + 1, rfl, by omega, fin _ w ?_ hs⟩, by omega⟩
        unfold numOf
        rw [if_pos (by omega)]
      · exact ⟨⟨j + 1, rfl, by omega, zero (by unfold numOf; rw [if_neg (by omega)]) w hs⟩, by omega⟩
    · exact ⟨⟨j + 1, rfl, by omega, zero (by unfold numOf; rw [if_neg (by omega)]) w hs⟩, by omega⟩
  · have hj2 : j = 2 := by have := of_decide_eq_false h0; omega
    subst hj2
    have hs : St W w2 (pt r2 [.int .i64 (numOf (hd8 s)), .int .i64 (numOf (tl8 s))] :: pt r1 [.int .i64 0, .int .i64 0] :: L) := hs
    refine ldN_pt (k := 0) (xs := [.int .i64 (numOf (hd8 s)), .int .i64 (numOf (tl8 s))]) hs rfl rfl (fun i v hi => by rw [Nat.zero_add]; exact hi) ?_
    refine ⟨rfl, stN_pt (k := 1) hs rfl (Nat.le_of_ble_eq_true rfl) (by simp [Value.oneCell']) fun w hs => ?_⟩
    rw [over_all (by simp)] at hs
    simp only [nn_some, add_mk, Nat.zero_add, Nat.add_zero, Nat.reduceAdd, Nat.reduceMul, Option.isNone_some, Option.isNone_none, br_true, br_false, Bool.not_true, Bool.not_false, xI_eq, xB_eq, xS_eq, xP_eq, xL_eq, x0_eq, x2_eq, x3_eq, chk_eq, true_and, and_true, List.set_cons_zero, List.set_cons_succ, List.eraseIdx_cons_zero, List.eraseIdx_cons_succ] at hs
    refine ldN_pt (k := 1) (xs := [.int .i64 (numOf (hd8 s)), .int .i64 (numOf (tl8 s))]) hs rfl rfl (fun i v hi => by rw [Nat.zero_add]; exact hi) ?_
    exact hK w hs.drop.drop

/-- The greatest number at an end of one of the first sectors. -/
def grTo (D : Disk) : Nat → Int
  | 0 => 0
  | j + 1 => max2 (max2 (grTo D j) (numOf (hd8 (D.read (j : Int)).1))) (numOf (tl8 (D.read (j : Int)).1))

theorem read_size {D : Disk} (h : D.Ok) {i : Int} (hi : D.is i) : (D.read i).1.size = 128 := by
  unfold Disk.read
  rw [if_pos hi]
  unfold Disk.now
  have hlt : i.toNat < D.safe.length := by have := hi.1; have := hi.2; omega
  cases hl : Disk.last D.later i with
  | none =>
    rw [Option.getD_none, List.getD_eq_getElem?_getD, List.getElem?_eq_getElem hlt, Option.getD_some]
    exact h.safe _ (List.getElem_mem hlt)
  | some x =>
    unfold Disk.last at hl
    rw [Option.map_eq_some_iff] at hl
    obtain ⟨p, hp, rfl⟩ := hl
    exact (h.later p (List.mem_reverse.1 (List.mem_of_find?_eq_some hp))).1

theorem Greatest_spec {d : Nat} {D : Disk} {K : VK} (h : St W w L) (hk : L[k]? = some (disk d D)) (hok : D.Ok) (hK : ∀ w', St W w' L → K (.int .i64 (grTo D D.safe.length)) w') : stamp_Greatest (some ⟨d, 0, none⟩) K w := by
  have hfew := hok.few
  unfold stamp_Greatest
  refine Disk_Sectors_spec h hk ?_
  simp only [nn_some, add_mk, Nat.zero_add, Nat.add_zero, Nat.reduceAdd, Nat.reduceMul, Option.isNone_some, Option.isNone_none, br_true, br_false, Bool.not_true, Bool.not_false, xI_eq, xB_eq, xS_eq, xP_eq, xL_eq, x0_eq, x2_eq, x3_eq, chk_eq, true_and, and_true, List.set_cons_zero, List.set_cons_succ, List.eraseIdx_cons_zero, List.eraseIdx_cons_succ]
  refine ⟨fun us w' => ∃ j : Nat, us = [.int .i64 0, .int .i64 (grTo D j), .int .i64 D.safe.length, .int .i64 j] ∧ j ≤ D.safe.length ∧ St W w' L,
    fun us _ => match us with | [_, _, _, .int _ j] => D.safe.length - j.toNat | _ => 0, ⟨0, rfl, Nat.zero_le _, h⟩, ?_⟩
  rintro n2 n3 n4 n5 w2 ⟨j, he, hj, hs⟩
  cases he
  refine br_dec (fun hlt => ?_) (fun hge => ?_)
  · have hi : D.is (j : Int) := ⟨by omega, hlt⟩
    have hsz := read_size hok hi
    have e5 : IntKind.i64.wrap ((j : Int) + 1) = ((j + 1 : Nat) : Int) := by rw [wrap_id (by omega)]; omega
    refine Disk_Read_spec hs hk hok ?_
    simp only [nn_some, add_mk, Nat.zero_add, Nat.add_zero, Nat.reduceAdd, Nat.reduceMul, Option.isNone_some, Option.isNone_none, br_true, br_false, Bool.not_true, Bool.not_false, xI_eq, xB_eq, xS_eq, xP_eq, xL_eq, x0_eq, x2_eq, x3_eq, chk_eq, true_and, and_true, List.set_cons_zero, List.set_cons_succ, List.eraseIdx_cons_zero, List.eraseIdx_cons_succ]
    refine ends_spec hs (by omega) (by omega) fun w hs => ?_
    simp only [xA_eq, List.length_cons, List.length_nil, Nat.zero_add, Nat.reduceAdd, true_and]
    refine mk_of hs fun r w hs => ?_
    refine ⟨trivial, stN_pt (k := 0) hs rfl (Nat.le_of_ble_eq_true rfl) (by simp [Value.oneCell']) fun w hs => ?_⟩
    rw [over_all (by simp)] at hs
    simp only [nn_some, add_mk, Nat.zero_add, Nat.add_zero, Nat.reduceAdd, Nat.reduceMul, Option.isNone_some, Option.isNone_none, br_true, br_false, Bool.not_true, Bool.not_false, xI_eq, xB_eq, xS_eq, xP_eq, xL_eq, x0_eq, x2_eq, x3_eq, chk_eq, true_and, and_true, List.set_cons_zero, List.set_cons_succ, List.eraseIdx_cons_zero, List.eraseIdx_cons_succ] at hs ⊢
    refine ⟨by decide, ?_⟩
    refine ld_pt (k := 0) hs rfl rfl ?_
    simp only [nn_some, add_mk, Nat.zero_add, Nat.add_zero, Nat.reduceAdd, Nat.reduceMul, Option.isNone_some, Option.isNone_none, br_true, br_false, Bool.not_true, Bool.not_false, xI_eq, xB_eq, xS_eq, xP_eq, xL_eq, x0_eq, x2_eq, x3_eq, chk_eq, true_and, and_true, List.set_cons_zero, List.set_cons_succ, List.eraseIdx_cons_zero, List.eraseIdx_cons_succ]
    refine ⟨by decide, ?_⟩
    refine ld_pt (k := 0) hs rfl rfl ?_
    simp only [nn_some, add_mk, Nat.zero_add, Nat.add_zero, Nat.reduceAdd, Nat.reduceMul, Option.isNone_some, Option.isNone_none, br_true, br_false, Bool.not_true, Bool.not_false, xI_eq, xB_eq, xS_eq, xP_eq, xL_eq, x0_eq, x2_eq, x3_eq, chk_eq, true_and, and_true, List.set_cons_zero, List.set_cons_succ, List.eraseIdx_cons_zero, List.eraseIdx_cons_succ]
    rw [e5]
    exact ⟨⟨j + 1, rfl, by omega, hs.drop⟩, by omega⟩
  · have : j = D.safe.length := by omega
    subst this
    exact hK _ hs
end
end Go.Sep
