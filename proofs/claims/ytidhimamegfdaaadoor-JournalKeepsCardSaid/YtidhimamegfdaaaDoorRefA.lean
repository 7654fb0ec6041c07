/- RefA: Ref, Ref2, merged: part of the proof: see the last text. -/
import Derived.Test.YtidhimamegfdaaaDoorStB
/- The document's bytes and sums are those of the program. -/
namespace Go.Sep
open Go.Den Go.RowKit Go.Prog Go.Plat
set_option linter.unusedSimpArgs false
set_option linter.unusedVariables false

/-! ### Sums, bit by bit -/

theorem u32_id {n : Int} (h : 0 ≤ n ∧ n < 4294967296) : IntKind.u32.wrap n = n := by
  simp [IntKind.wrap, IntKind.bits, IntKind.signed]; omega

theorem xor32 (a b : Int) : isum .u32 .xor a b = (((BitVec.ofInt 32 a ^^^ BitVec.ofInt 32 b).toNat : Nat) : Int) := by
  have := (BitVec.ofInt 32 a ^^^ BitVec.ofInt 32 b).isLt
  show IntKind.u32.wrap (((BitVec.ofInt 32 a ^^^ BitVec.ofInt 32 b).toNat : Nat) : Int) = _
  rw [u32_id (by omega)]
theorem and32 (a b : Int) : isum .u32 .and a b = (((BitVec.ofInt 32 a &&& BitVec.ofInt 32 b).toNat : Nat) : Int) := by
  have := (BitVec.ofInt 32 a &&& BitVec.ofInt 32 b).isLt
  show IntKind.u32.wrap (((BitVec.ofInt 32 a &&& BitVec.ofInt 32 b).toNat : Nat) : Int) = _
  rw [u32_id (by omega)]

def poly : BitVec 32 := 2197175160#32
/-- One bit's step of the program's sum. -/
def stepB (v : BitVec 32) : BitVec 32 := (v >>> 1) ^^^ (if v.toNat % 2 = 1 then poly else 0#32)

theorem ofInt_nat (v : BitVec 32) : BitVec.ofInt 32 ((v.toNat : Nat) : Int) = v := by
  rw [BitVec.ofInt_natCast, BitVec.ofNat_toNat, BitVec.setWidth_eq]

theorem crc8_step (v : BitVec 32) : isum .u32 .xor (shr .u32 ((v.toNat : Nat) : Int) 1) (isum .u32 .and 2197175160 (IntKind.u32.wrap (0 - (isum .u32 .and ((v.toNat : Nat) : Int) 1)))) = (((stepB v).toNat : Nat) : Int) := by
  have hv := v.isLt
  have e1 : shr .u32 ((v.toNat : Nat) : Int) 1 = (((v >>> 1).toNat : Nat) : Int) := by
    rw [BitVec.toNat_ushiftRight, Nat.shiftRight_eq_div_pow]
    unfold shr
    rw [Int.fdiv_eq_ediv_of_nonneg _ (by decide)]
    rfl
  have e2 : isum .u32 .and ((v.toNat : Nat) : Int) 1 = ((v.toNat % 2 : Nat) : Int) := by
    rw [and32, ofInt_nat, BitVec.toNat_and]
    have : (BitVec.ofInt 32 1).toNat = 1 := rfl
    rw [this, Nat.and_one_is_mod]
  rw [e1, e2]
  unfold stepB
  rcases Nat.mod_two_eq_zero_or_one v.toNat with h | h
  · rw [h, if_neg (by decide)]
    have e3 : isum .u32 .and 2197175160 (IntKind.u32.wrap (0 - ((0 : Nat) : Int))) = 0 := by decide +kernel
    rw [e3, xor32, ofInt_nat]; rfl
  · rw [h, if_pos rfl]
    have e3 : isum .u32 .and 2197175160 (IntKind.u32.wrap (0 - ((1 : Nat) : Int))) = ((poly.toNat : Nat) : Int) := by decide +kernel
    rw [e3, xor32, ofInt_nat, ofInt_nat]

def stepsB (v : BitVec 32) : Nat → BitVec 32
  | 0 => v
  | j + 1 => stepB (stepsB v j)

theorem crc8_eq (v : BitVec 32) : ∀ j, crc8 ((v.toNat : Nat) : Int) j = (((stepsB v j).toNat : Nat) : Int)
  | 0 => rfl
  | j + 1 => by rw [crc8, crc8_eq v j, crc8_step]; rfl

/-- One bit's step of the document's sum. -/
def stepR (b : BitVec 32) (v : BitVec 32) (k : Nat) : BitVec 32 := (v >>> 1) ^^^ (if v.toNat % 2 = (b >>> k).toNat % 2 then 0#32 else poly)
def stepsR (b v : BitVec 32) : Nat → BitVec 32
  | 0 => v
  | j + 1 => stepR b (stepsR b v j) j

theorem xor_mod2 (x y : BitVec 32) : (x ^^^ y).toNat % 2 = (x.toNat % 2 + y.toNat % 2) % 2 := by
  have := Nat.xor_mod_two_pow (a := x.toNat) (b := y.toNat) (n := 1)
  rw [Nat.pow_one] at this
  rw [BitVec.toNat_xor, this]
  rcases Nat.mod_two_eq_zero_or_one x.toNat with a | a <;> rcases Nat.mod_two_eq_zero_or_one y.toNat with b | b <;> rw [a, b] <;> rfl

theorem steps_eq (b v : BitVec 32) : ∀ k, stepsB (v ^^^ b) k = stepsR b v k ^^^ (b >>> k)
  | 0 => by simp [stepsB, stepsR]
  | k + 1 => by
    rw [stepsB, steps_eq b v k, stepsR]
    generalize stepsR b v k = r
    unfold stepB stepR
    rw [xor_mod2, BitVec.ushiftRight_xor_distrib, ← BitVec.shiftRight_add]
    have e : (if (r.toNat % 2 + (b >>> k).toNat % 2) % 2 = 1 then poly else 0#32) = (if r.toNat % 2 = (b >>> k).toNat % 2 then 0#32 else poly) := by
      rcases Nat.mod_two_eq_zero_or_one r.toNat with h1 | h1 <;> rcases Nat.mod_two_eq_zero_or_one (b >>> k).toNat with h2 | h2 <;> rw [h1, h2] <;> rfl
    rw [e]
    rw [BitVec.xor_assoc, BitVec.xor_assoc]
    congr 1
    exact BitVec.xor_comm _ _

def bv8 (c : UInt8) : BitVec 32 := BitVec.ofNat 32 c.toNat
theorem bv8_toNat (c : UInt8) : (bv8 c).toNat = c.toNat := by
  have := c.toNat_lt
  unfold bv8
  rw [BitVec.toNat_ofNat, Nat.mod_eq_of_lt (by omega)]
theorem bv8_shr (c : UInt8) : bv8 c >>> 8 = 0#32 := by
  have := c.toNat_lt
  apply BitVec.eq_of_toNat_eq
  rw [BitVec.toNat_ushiftRight, bv8_toNat, Nat.shiftRight_eq_div_pow]
  show c.toNat / 2 ^ 8 = 0
  omega

def crcB (v : BitVec 32) (l : List UInt8) : BitVec 32 := l.foldl (fun v c => stepsR (bv8 c) v 8) v

theorem crcStep_eq (v : BitVec 32) (c : UInt8) : crcStep ((v.toNat : Nat) : Int) c = (((stepsR (bv8 c) v 8).toNat : Nat) : Int) := by
  have hc := c.toNat_lt
  unfold crcStep
  have e1 : IntKind.u32.wrap (c.toNat : Int) = (((bv8 c).toNat : Nat) : Int) := by rw [bv8_toNat, u32_id (by omega)]
  rw [e1, xor32, ofInt_nat, ofInt_nat, crc8_eq, steps_eq, bv8_shr, BitVec.xor_zero]

theorem crcL_eq : ∀ (l : List UInt8) (v : BitVec 32), crcL ((v.toNat : Nat) : Int) l = (((crcB v l).toNat : Nat) : Int)
  | [], v => rfl
  | c :: l, v => by
    show crcL (crcStep ((v.toNat : Nat) : Int) c) l = _
    rw [crcStep_eq, crcL_eq l]; rfl

theorem sum32_eq (l : List UInt8) : sum32 0 l = 4294967295 - (((crcB (BitVec.allOnes 32) l).toNat : Nat) : Int) := by
  have e0 : isum .u32 .xor 4294967295 0 = (((BitVec.allOnes 32).toNat : Nat) : Int) := by decide +kernel
  have e1 : BitVec.ofInt 32 4294967295 = BitVec.allOnes 32 := by decide +kernel
  unfold sum32
  rw [e0, crcL_eq, xor32, ofInt_nat, e1, BitVec.allOnes_xor, BitVec.toNat_not]
  have := (crcB (BitVec.allOnes 32) l).isLt
  omega

section
variable {W w : World} {L : List HP}

theorem rSum_spec {s : ByteArray} {K : VK} (hs : s.size < 1099511627776) (hK : K (.int .u32 (sum32 0 s.data.toList)) w) : bondstoreref02_Sum 0 s K w := by
  have e0 : IntKind.u32.wrap (4294967295 - 0) = (((BitVec.allOnes 32).toNat : Nat) : Int) := by decide +kernel
  unfold bondstoreref02_Sum
  rw [e0]
  refine ⟨fun us w' => ∃ i : Nat, us = [.int .u32 0, .int .u32 (((crcB (BitVec.allOnes 32) (s.data.toList.take i)).toNat : Nat) : Int), .int .i64 i] ∧ i ≤ s.size ∧ isW w w',
    fun us _ => match us with | [_, _, .int _ i] => s.size - i.toNat | _ => 0, ⟨0, rfl, Nat.zero_le _, rfl⟩, ?_⟩
  rintro n2 n3 n4 w2 ⟨i, he, hi, hw⟩
  obtain rfl : w2 = w := hw
  cases he
  have hlen : s.data.toList.length = s.size := rfl
  generalize hb : decide ((i : Int) < (s.size : Int)) = b
  cases b
  · have hge := of_decide_eq_false hb
    rw [br_false]
    have : i = s.size := by omega
    subst this
    rw [List.take_of_length_le (by omega)]
    rw [sum32_eq] at hK
    have := (crcB (BitVec.allOnes 32) s.data.toList).isLt
    rw [u32_id (by omega)]
    exact hK
  · have hlt := of_decide_eq_true hb
    rw [br_true]
    have hil : i < s.data.toList.length := by omega
    generalize hv : crcB (BitVec.allOnes 32) (s.data.toList.take i) = v
    refine ⟨fun us w' => ∃ k : Nat, us = [.int .u32 0, .int .u32 (((stepsR (bv8 s.data.toList[i]) v k).toNat : Nat) : Int), .int .i64 i, .int .i64 k, .int .i64 i, .string s, .int .i64 s.size, .bool true] ∧ k ≤ 8 ∧ isW w2 w',
      fun us _ => match us with | [_, _, _, .int _ k, _, _, _, _] => 8 - k.toNat | _ => 0, ⟨0, rfl, Nat.zero_le _, rfl⟩, ?_⟩
    rintro n5 n6 n7 n8 n9 s2 n10 b1 w4 ⟨k, he, hk, hw⟩
    obtain rfl : w4 = w2 := hw
    cases he
    generalize hb2 : decide ((k : Int) < 8) = b2
    cases b2
    · have hge := of_decide_eq_false hb2
      rw [br_false]
      have hk8 : k = 8 := by omega
      subst hk8
      have e5 : IntKind.i64.wrap ((i : Int) + 1) = ((i + 1 : Nat) : Int) := by rw [wrap_id (by omega)]; omega
      rw [e5]
      refine ⟨⟨i + 1, ?_, by omega, rfl⟩, by dsimp only; omega⟩
      have e6 : crcB (BitVec.allOnes 32) (s.data.toList.take (i + 1)) = stepsR (bv8 s.data.toList[i]) v 8 := by
        rw [List.take_succ_eq_append_getElem hil]
        unfold crcB at hv ⊢
        rw [List.foldl_append, hv]; rfl
      rw [e6]
    · have hlt2 := of_decide_eq_true hb2
      rw [br_true]
      refine ⟨s.data.toList[i], ⟨by omega, by rw [Int.toNat_natCast]; exact List.getElem?_eq_getElem hil⟩, ?_⟩
      generalize s.data.toList[i] = c at *
      generalize hr : stepsR (bv8 c) v k = r
      have hrl := r.isLt
      have hcl := c.toNat_lt
      have e5 : IntKind.i64.wrap ((k : Int) + 1) = ((k + 1 : Nat) : Int) := by rw [wrap_id (by omega)]; omega
      have eu : IntKind.u64.wrap (k : Int) = (k : Int) := u64w (by omega)
      have ec : IntKind.u32.wrap (c.toNat : Int) = (c.toNat : Int) := u32_id (by omega)
      have em : (((r.toNat : Nat) : Int)).tmod 2 = ((r.toNat % 2 : Nat) : Int) := by rw [Int.tmod_eq_emod_of_nonneg (by omega)]; rfl
      have ed : IntKind.u32.wrap ((((r.toNat : Nat) : Int)).tdiv 2) = (((r >>> 1).toNat : Nat) : Int) := by
        rw [Int.tdiv_eq_ediv_of_nonneg (by omega), BitVec.toNat_ushiftRight, Nat.shiftRight_eq_div_pow, u32_id (by omega)]
        rfl
      have es : (shr .u32 (c.toNat : Int) (k : Int)).tmod 2 = (((bv8 c >>> k).toNat % 2 : Nat) : Int) := by
        unfold shr
        have h2 : min (k : Int).toNat IntKind.u32.bits = k := by show min (k : Int).toNat 32 = _; omega
        rw [h2, Int.fdiv_eq_ediv_of_nonneg _ (Int.le_of_lt (Int.pow_pos (by decide))), Int.tmod_eq_emod_of_nonneg (Int.ediv_nonneg (by omega) (Int.le_of_lt (Int.pow_pos (by decide)))), BitVec.toNat_ushiftRight, bv8_toNat, Nat.shiftRight_eq_div_pow]
        push_cast
        rfl
      dsimp only
      rw [eu, ec, e5]
      refine ⟨by omega, by decide, by decide, by decide, ?_⟩
      rw [em, es, ed]
      have hstep : stepsR (bv8 c) v (k + 1) = (r >>> 1) ^^^ (if r.toNat % 2 = (bv8 c >>> k).toNat % 2 then 0#32 else poly) := by
        show stepR (bv8 c) (stepsR (bv8 c) v k) k = _
        rw [hr]; rfl
      refine br_ne (fun hne => ?_) (fun heq => ?_)
      · refine ⟨⟨k + 1, ?_, by omega, rfl⟩, by omega⟩
        rw [hstep, if_neg (by omega), xor32, ofInt_nat]
        rfl
      · refine ⟨⟨k + 1, ?_, by omega, rfl⟩, by omega⟩
        rw [hstep, if_pos (by omega), BitVec.xor_zero]

/-! ### Numbers' bytes -/

theorem rBytes4_spec {n : Int} {K : VK} (h : St W w L) (hn : 0 ≤ n ∧ n < 4294967296) (hK : ∀ w', St W w' L → K (.string (bs (le32 n))) w') : bondstoreref02_Bytes n K w := by
  unfold bondstoreref02_Bytes
  refine ⟨by decide, by decide, by decide, by decide, by decide, by decide, ⟨rfl, rfl, rfl, rfl, trivial⟩, mk_of h fun r w hs => ?_⟩
  obtain ⟨m, rfl⟩ := Int.eq_ofNat_of_zero_le hn.1
  have hb : ∀ (i d : Nat) (x : Int), d = 2 ^ (8 * i) → i < 4 → IntKind.u8.wrap x = IntKind.u8.wrap ((m / d : Nat) : Int) → Value.int .u8 (IntKind.u8.wrap x) = u8v (byteOf .u32 (m : Int) i) := fun i d x hd hi hx => by
    unfold byteOf
    rw [u8v_ofNat (u8_wrap_in _), hx]
    have e1 : shr .u32 (m : Int) (8 * (i : Int)) = ((m / d : Nat) : Int) := by
      unfold shr
      have h1 : (8 * (i : Int)).toNat = 8 * i := by omega
      have h2 : min (8 * i) IntKind.u32.bits = 8 * i := by show min (8 * i) 32 = _; omega
      rw [h1, h2, hd, Int.fdiv_eq_ediv_of_nonneg _ (Int.le_of_lt (Int.pow_pos (by decide)))]
      push_cast
      rfl
    rw [e1]
  have t0 : ((m : Int)).tmod 256 = ((m % 256 : Nat) : Int) := by rw [Int.tmod_eq_emod_of_nonneg (by omega)]; rfl
  have d1 : ((m : Int)).tdiv 256 = ((m / 256 : Nat) : Int) := by rw [Int.tdiv_eq_ediv_of_nonneg (by omega)]; rfl
  have d2 : ((m : Int)).tdiv 65536 = ((m / 65536 : Nat) : Int) := by rw [Int.tdiv_eq_ediv_of_nonneg (by omega)]; rfl
  have d3 : ((m : Int)).tdiv 16777216 = ((m / 16777216 : Nat) : Int) := by rw [Int.tdiv_eq_ediv_of_nonneg (by omega)]; rfl
  have t1 : (((m / 256 : Nat) : Int)).tmod 256 = ((m / 256 % 256 : Nat) : Int) := by rw [Int.tmod_eq_emod_of_nonneg (by omega)]; rfl
  have t2 : (((m / 65536 : Nat) : Int)).tmod 256 = ((m / 65536 % 256 : Nat) : Int) := by rw [Int.tmod_eq_emod_of_nonneg (by omega)]; rfl
  rw [t0, d1, d2, d3, u32_id (n := ((m / 256 : Nat) : Int)) (by omega), u32_id (n := ((m / 65536 : Nat) : Int)) (by omega), u32_id (n := ((m / 16777216 : Nat) : Int)) (by omega), t1, t2] at hs
  have w8 : ∀ z : Nat, IntKind.u8.wrap ((z % 256 : Nat) : Int) = IntKind.u8.wrap ((z : Nat) : Int) := fun z => by simp [IntKind.wrap, IntKind.bits, IntKind.signed]
  have c0 := hb 0 1 ((m % 256 : Nat) : Int) rfl (by decide) (by rw [w8, Nat.div_one])
  have c1 := hb 1 256 ((m / 256 % 256 : Nat) : Int) rfl (by decide) (by rw [w8])
  have c2 := hb 2 65536 ((m / 65536 % 256 : Nat) : Int) rfl (by decide) (by rw [w8])
  have c3 := hb 3 16777216 ((m / 16777216 : Nat) : Int) rfl (by decide) rfl
  rw [c0, c1, c2, c3] at hs
  exact b2s_pt (k := 0) (l := le32 (m : Int)) hs rfl rfl (hK w hs.drop)
end
end Go.Sep

/- The document's numbers and leaves are those of the program. -/
namespace Go.Sep
open Go.Den Go.RowKit Go.Prog Go.Plat
set_option linter.unusedSimpArgs false
set_option linter.unusedVariables false

theorem u64_wrap_in (n : Int) : 0 ≤ IntKind.u64.wrap n ∧ IntKind.u64.wrap n < 18446744073709551616 := by
  simp [IntKind.wrap, IntKind.bits, IntKind.signed]; omega

theorem byteOf_u (n : Int) (i : Nat) (hi : i < 8) : IntKind.u8.wrap (shr .i64 n (8 * (i : Int))) = IntKind.u8.wrap ((((IntKind.u64.wrap n).toNat / 256 ^ i : Nat) : Int)) := by
  have hu : (((IntKind.u64.wrap n).toNat : Nat) : Int) = n % 18446744073709551616 := by
    have := u64_wrap_in n
    rw [Int.toNat_of_nonneg this.1]
    simp [IntKind.wrap, IntKind.bits, IntKind.signed]
  generalize (IntKind.u64.wrap n).toNat = U at *
  have e8 : ∀ x : Int, IntKind.u8.wrap x = x % 256 := fun x => by simp [IntKind.wrap, IntKind.bits, IntKind.signed]
  rw [e8, e8]
  unfold shr
  rw [Int.fdiv_eq_ediv_of_nonneg _ (Int.le_of_lt (Int.pow_pos (by decide)))]
  match i, hi with
  | 0, _ => show (n / 1) % 256 = (((U / 1 : Nat) : Int)) % 256; omega
  | 1, _ => show (n / 256) % 256 = (((U / 256 : Nat) : Int)) % 256; omega
  | 2, _ => show (n / 65536) % 256 = (((U / 65536 : Nat) : Int)) % 256; omega
  | 3, _ => show (n / 16777216) % 256 = (((U / 16777216 : Nat) : Int)) % 256; omega
  | 4, _ => show (n / 4294967296) % 256 = (((U / 4294967296 : Nat) : Int)) % 256; omega
  | 5, _ => show (n / 1099511627776) % 256 = (((U / 1099511627776 : Nat) : Int)) % 256; omega
  | 6, _ => show (n / 281474976710656) % 256 = (((U / 281474976710656 : Nat) : Int)) % 256; omega
  | 7, _ => show (n / 72057594037927936) % 256 = (((U / 72057594037927936 : Nat) : Int)) % 256; omega

section
variable {W w : World} {L : List HP}

theorem rInt_spec {m n : Int} {K : VK} (h : St W w L) (hK : ∀ w', St W w' L → K (.string (bs (le .i64 (min2 (max2 m 1) 8).toNat n))) w') : bondstoreref03_Int m n K w := by
  have hm : 1 ≤ min2 (max2 m 1) 8 ∧ min2 (max2 m 1) 8 ≤ 8 := by unfold min2 max2; split <;> split <;> omega
  unfold bondstoreref03_Int
  generalize min2 (max2 m 1) 8 = q at *
  have hu := u64_wrap_in n
  refine ⟨fun us w' => ∃ j : Nat, us = [.string .empty, .int .i64 q, .int .u64 (((IntKind.u64.wrap n).toNat / 256 ^ j : Nat) : Int), .string (bs (le .i64 j n)), .int .i64 j] ∧ (j : Int) ≤ q ∧ St W w' L,
    fun us _ => match us with | [_, _, _, _, .int _ j] => (q - j).toNat | _ => 0, ⟨0, ?_, by omega, h⟩, ?_⟩
  · rw [Nat.pow_zero, Nat.div_one, Int.toNat_of_nonneg hu.1]; rfl
  rintro s1 n3 n4 s2 n5 w2 ⟨j, he, hj, hs⟩
  cases he
  refine br_dec (fun h0 => ?_) (fun h0 => ?_)
  · have hj8 : j < 8 := by omega
    have hb := byteOf_u n j hj8
    have hUlt : (IntKind.u64.wrap n).toNat < 18446744073709551616 := by omega
    generalize hU : (IntKind.u64.wrap n).toNat = U at *
    have hle : U / 256 ^ j ≤ U := Nat.div_le_self _ _
    have hnext : U / 256 ^ (j + 1) = U / 256 ^ j / 256 := by rw [Nat.div_div_eq_div_mul, ← Nat.pow_succ]
    generalize U / 256 ^ j = V at *
    have et : ((V : Nat) : Int).tmod 256 = ((V % 256 : Nat) : Int) := by rw [Int.tmod_eq_emod_of_nonneg (by omega)]; rfl
    have ed : ((V : Nat) : Int).tdiv 256 = ((V / 256 : Nat) : Int) := by rw [Int.tdiv_eq_ediv_of_nonneg (by omega)]; rfl
    have ew : IntKind.u64.wrap ((V / 256 : Nat) : Int) = ((V / 256 : Nat) : Int) := u64w (by omega)
    have e5 : IntKind.i64.wrap ((j : Int) + 1) = ((j + 1 : Nat) : Int) := by rw [wrap_id (by omega)]; omega
    have w8 : ∀ z : Nat, IntKind.u8.wrap ((z % 256 : Nat) : Int) = IntKind.u8.wrap ((z : Nat) : Int) := fun z => by simp [IntKind.wrap, IntKind.bits, IntKind.signed]
    have hcell : Value.int .u8 (IntKind.u8.wrap (((V : Nat) : Int).tmod 256)) = u8v (byteOf .i64 n j) := by
      unfold byteOf
      rw [u8v_ofNat (u8_wrap_in _), hb, et, w8]
    rw [hcell, ed, ew, e5]
    refine ⟨by decide, ⟨rfl, trivial⟩, mk_of hs fun r w hs => ?_⟩
    refine b2s_pt (k := 0) (l := [byteOf .i64 n j]) hs rfl rfl ?_
    rw [bs_append, ← le_succ]
    refine ⟨by rw [bs_size, bs_size, le_length]; simp; omega, by decide, ?_⟩
    exact ⟨⟨j + 1, by rw [hnext], by omega, hs.drop⟩, by dsimp only; omega⟩
  · have : q.toNat = j := by omega
    rw [this] at hK
    exact hK _ hs

theorem rLeaf_spec {n i : Int} {s : ByteArray} {K : VK} (h : St W w L) (hs : s.size ≤ 104) (hK : ∀ w', St W w' L → K (.string (bs (leafL n i s))) w') : bondstoreref05_Bytes n i s K w := by
  have hd : s.data.toList.length = s.size := rfl
  unfold bondstoreref05_Bytes
  refine rInt_spec h fun w h => ?_
  rw [show (min2 (max2 8 1) 8).toNat = 8 from rfl]
  simp only [nn_some, add_mk, Nat.zero_add, Nat.add_zero, Nat.reduceAdd, Nat.reduceMul, Option.isNone_some, Option.isNone_none, br_true, br_false, Bool.not_true, Bool.not_false, xI_eq, xB_eq, xS_eq, xP_eq, xL_eq, x0_eq, x2_eq, x3_eq, chk_eq, true_and, and_true, List.set_cons_zero, List.set_cons_succ, List.eraseIdx_cons_zero, List.eraseIdx_cons_succ]
  refine rInt_spec h fun w h => ?_
  rw [show (min2 (max2 2 1) 8).toNat = 2 from rfl]
  simp only [nn_some, add_mk, Nat.zero_add, Nat.add_zero, Nat.reduceAdd, Nat.reduceMul, Option.isNone_some, Option.isNone_none, br_true, br_false, Bool.not_true, Bool.not_false, xI_eq, xB_eq, xS_eq, xP_eq, xL_eq, x0_eq, x2_eq, x3_eq, chk_eq, true_and, and_true, List.set_cons_zero, List.set_cons_succ, List.eraseIdx_cons_zero, List.eraseIdx_cons_succ]
  refine ⟨by rw [bs_size, bs_size, le_length, le_length]; omega, ?_⟩
  refine rInt_spec h fun w h => ?_
  rw [show (min2 (max2 2 1) 8).toNat = 2 from rfl]
  simp only [nn_some, add_mk, Nat.zero_add, Nat.add_zero, Nat.reduceAdd, Nat.reduceMul, Option.isNone_some, Option.isNone_none, br_true, br_false, Bool.not_true, Bool.not_false, xI_eq, xB_eq, xS_eq, xP_eq, xL_eq, x0_eq, x2_eq, x3_eq, chk_eq, true_and, and_true, List.set_cons_zero, List.set_cons_succ, List.eraseIdx_cons_zero, List.eraseIdx_cons_succ]
  rw [bs_append, bs_append]
  have e1 : bs (le .i64 8 n ++ le .i64 2 i ++ le .i64 2 s.size) ++ s = bs (le .i64 8 n ++ le .i64 2 i ++ le .i64 2 s.size ++ s.data.toList) := by
    rw [← bs_append _ s.data.toList]; rfl
  rw [e1]
  refine ⟨by rw [bs_size, bs_size, List.length_append, le_length, le_length, le_length]; omega, by rw [bs_size, List.length_append, List.length_append, le_length, le_length, le_length]; omega, ?_⟩
  generalize hp : le .i64 8 n ++ le .i64 2 i ++ le .i64 2 s.size ++ s.data.toList = p
  have hpl : p.length = 12 + s.size := by rw [← hp]; simp only [List.length_append, le_length, hd]
  refine ⟨fun us w' => ∃ j : Nat, us = [.string .empty, .string (bs (p ++ List.replicate j 0))] ∧ j ≤ 104 - s.size ∧ St W w' L, fun us _ => match us with | [_, .string x] => 116 - x.size | _ => 0, ⟨0, by rw [List.replicate_zero, List.append_nil], Nat.zero_le _, h⟩, ?_⟩
  rintro s5 s6 w2 ⟨j, he, hj, hs2⟩
  cases he
  have hsz : (bs (p ++ List.replicate j 0)).size = 12 + s.size + j := by rw [bs_size, List.length_append, List.length_replicate, hpl]
  rw [hsz]
  refine br_dec (fun hlt => ?_) (fun hge => ?_)
  · have ez : bs (p ++ List.replicate j 0) ++ (⟨#[0]⟩ : ByteArray) = bs (p ++ List.replicate (j + 1) 0) := by
      rw [List.replicate_succ', ← List.append_assoc, ← bs_append (p ++ List.replicate j 0)]; rfl
    rw [ez]
    refine ⟨by have : (⟨#[0]⟩ : ByteArray).size = 1 := rfl; rw [this]; omega, ?_⟩
    refine ⟨⟨j + 1, rfl, by omega, hs2⟩, ?_⟩
    show 116 - (bs (p ++ List.replicate (j + 1) 0)).size < 116 - (bs (p ++ List.replicate j 0)).size
    rw [hsz, bs_size, List.length_append, List.length_replicate, hpl]; omega
  · have hj2 : j = 104 - s.size := by omega
    subst hj2
    have epre : p ++ List.replicate (104 - s.size) 0 = pre n i s := by rw [← hp]; rfl
    rw [epre]
    have hprel := pre_length (n := n) (i := i) hs
    refine rSum_spec (by rw [bs_size, hprel]; decide) ?_
    simp only [nn_some, add_mk, Nat.zero_add, Nat.add_zero, Nat.reduceAdd, Nat.reduceMul, Option.isNone_some, Option.isNone_none, br_true, br_false, Bool.not_true, Bool.not_false, xI_eq, xB_eq, xS_eq, xP_eq, xL_eq, x0_eq, x2_eq, x3_eq, chk_eq, true_and, and_true, List.set_cons_zero, List.set_cons_succ, List.eraseIdx_cons_zero, List.eraseIdx_cons_succ]
    refine rBytes4_spec hs2 (u32_wrap_in _) fun w h => ?_
    simp only [nn_some, add_mk, Nat.zero_add, Nat.add_zero, Nat.reduceAdd, Nat.reduceMul, Option.isNone_some, Option.isNone_none, br_true, br_false, Bool.not_true, Bool.not_false, xI_eq, xB_eq, xS_eq, xP_eq, xL_eq, x0_eq, x2_eq, x3_eq, chk_eq, true_and, and_true, List.set_cons_zero, List.set_cons_succ, List.eraseIdx_cons_zero, List.eraseIdx_cons_succ]
    have hc : (le32 (sum32 0 (pre n i s))).length = 4 := le_length _ _ _
    have e2 : (bs (pre n i s)).data.toList = pre n i s := rfl
    rw [e2]
    refine ⟨by rw [bs_size, hc]; omega, ?_⟩
    refine rInt_spec h fun w h => ?_
    rw [show (min2 (max2 8 1) 8).toNat = 8 from rfl]
    simp only [nn_some, add_mk, Nat.zero_add, Nat.add_zero, Nat.reduceAdd, Nat.reduceMul, Option.isNone_some, Option.isNone_none, br_true, br_false, Bool.not_true, Bool.not_false, xI_eq, xB_eq, xS_eq, xP_eq, xL_eq, x0_eq, x2_eq, x3_eq, chk_eq, true_and, and_true, List.set_cons_zero, List.set_cons_succ, List.eraseIdx_cons_zero, List.eraseIdx_cons_succ]
    rw [bs_append, bs_append]
    refine ⟨by rw [bs_size, bs_size, List.length_append, hprel, hc, le_length]; decide, ?_⟩
    exact hK w h

theorem rPart_spec {s : ByteArray} {i : Nat} {K : VK} (hi : i < 5000) (hs : s.size ≤ reachBytes) (hK : K (.string (part s i)) w) : bondstoreref05_Part s i K w := by
  have hs' : s.size ≤ 140737488351232 := hs
  unfold bondstoreref05_Part
  have e1 : IntKind.i64.wrap (104 * (i : Int)) = ((104 * i : Nat) : Int) := by rw [wrap_id (by omega)]; omega
  have e2 : IntKind.i64.wrap (((104 * i : Nat) : Int) + 104) = ((104 * (i + 1) : Nat) : Int) := by rw [wrap_id (by omega)]; omega
  rw [e1, e2]
  have m1 : min2 ((104 * i : Nat) : Int) (s.size : Int) = ((min (104 * i) s.size : Nat) : Int) := by unfold min2; split <;> omega
  have m2 : min2 ((104 * (i + 1) : Nat) : Int) (s.size : Int) = ((min (104 * (i + 1)) s.size : Nat) : Int) := by unfold min2; split <;> omega
  rw [m1, m2]
  unfold slStr
  dsimp only
  have e3 : s.extract ((min (104 * i) s.size : Nat) : Int).toNat ((min (104 * (i + 1)) s.size : Nat) : Int).toNat = part s i := by
    rw [Int.toNat_natCast, Int.toNat_natCast]
    apply bytes_ext
    unfold part
    rw [extract_toList, extract_toList]
    by_cases h : 104 * i ≤ s.size
    · rw [Nat.min_eq_left h, List.take_eq_take_iff, List.length_drop, toList_length]; omega
    · rw [List.drop_of_length_le (by rw [toList_length]; omega), List.drop_of_length_le (by rw [toList_length]; omega)]
      simp
  refine ⟨?_, ?_⟩
  · omega
  · first
      | (rw [e3]; exact hK)
      | (refine ⟨by omega, ?_⟩; rw [e3]; exact hK)
end
end Go.Sep
