/- The document's numbers and leaves are those of the program. -/
import Derived.Test.YtidhimamegfdaaaDoorRef
namespace Go.Sep
open Go.Den Go.RowKit Go.Prog Go.Plat
set_option linter.unusedSimpArgs false
set_option linter.unusedVariables false

theorem u64_wrap_in (n : Int) : 0 ≤ IntKind.u64.wrap n ∧ IntKind.u64.wrap n < 18446744073709551616 := by
  simp [IntKind.wrap, IntKind.bits, IntKind.signed]; omega

theorem byteOf_u (n : Int) (i : Nat) (hi : i < 8) : IntKind.u8.wrap (shr .i64 n (8 * (i : Int))) = IntKind.u8.wrap ((((IntKind.u64.wrap n).toNat / 256 ^ i : Nat) : Int)) := by
  have hu : (((IntKind.u64.wrap n).toNat : Nat) : Int) = n % 18446744073709551616 := by
    have := u64_wrap_in n
    rw [Int.toNat_of_nonneg this.1]
    simp [IntKind.wrap, IntKind.bits, IntKind.signed]
  generalize (IntKind.u64.wrap n).toNat = U at *
  have e8 : ∀ x : Int, IntKind.u8.wrap x = x % 256 := fun x => by simp [IntKind.wrap, IntKind.bits, IntKind.signed]
  rw [e8, e8]
  unfold shr
  rw [Int.fdiv_eq_ediv_of_nonneg _ (Int.le_of_lt (Int.pow_pos (by decide)))]
  match i, hi with
  | 0, _ => show (n / 1) % 256 = (((U / 1 : Nat) : Int)) % 256; omega
  | 1, _ => show (n / 256) % 256 = (((U / 256 : Nat) : Int)) % 256; omega
  | 2, _ => show (n / 65536) % 256 = (((U / 65536 : Nat) : Int)) % 256; omega
  | 3, _ => show (n / 16777216) % 256 = (((U / 16777216 : Nat) : Int)) % 256; omega
  | 4, _ => show (n / 4294967296) % 256 = (((U / 4294967296 : Nat) : Int)) % 256; omega
  | 5, _ => show (n / 1099511627776) % 256 = (((U / 1099511627776 : Nat) : Int)) % 256; omega
  | 6, _ => show (n / 281474976710656) % 256 = (((U / 281474976710656 : Nat) : Int)) % 256; omega
  | 7, _ => show (n / 72057594037927936) % 256 = (((U / 72057594037927936 : Nat) : Int)) % 256; omega

section
variable {W w : World} {L : List HP}

theorem rInt_spec {m n : Int} {K : VK} (h : St W w L) (hK : ∀ w', St W w' L → K (.string (bs (le .i64 (min2 (max2 m 1) 8).toNat n))) w') : bondstoreref03_Int m n K w := by
  have hm : 1 ≤ min2 (max2 m 1) 8 ∧ min2 (max2 m 1) 8 ≤ 8 := by unfold min2 max2; split <;> split <;> omega
  unfold bondstoreref03_Int
  generalize min2 (max2 m 1) 8 = q at *
  have hu := u64_wrap_in n
  refine ⟨fun us w' => ∃ j : Nat, us = [.string .empty, .int .i64 q, .int .u64 (((IntKind.u64.wrap n).toNat / 256 ^ j : Nat) : Int), .string (bs (le .i64 j n)), .int .i64 j] ∧ (j : Int) ≤ q ∧ St W w' L,
    fun us _ => match us with | [_, _, _, _, .int _ j] => (q - j).toNat | _ => 0, ⟨0, ?_, by omega, h⟩, ?_⟩
  · rw [Nat.pow_zero, Nat.div_one, Int.toNat_of_nonneg hu.1]; rfl
  rintro s1 n3 n4 s2 n5 w2 ⟨j, he, hj, hs⟩
  cases he
  refine br_dec (fun h0 => ?_) (fun h0 => ?_)
  · have hj8 : j < 8 := by omega
    have hb := byteOf_u n j hj8
    have hUlt : (IntKind.u64.wrap n).toNat < 18446744073709551616 := by omega
    generalize hU : (IntKind.u64.wrap n).toNat = U at *
    have hle : U / 256 ^ j ≤ U := Nat.div_le_self _ _
    have hnext : U / 256 ^ (j + 1) = U / 256 ^ j / 256 := by rw [Nat.div_div_eq_div_mul, ← Nat.pow_succ]
    generalize U / 256 ^ j = V at *
    have et : ((V : Nat) : Int).tmod 256 = ((V % 256 : Nat) : Int) := by rw [Int.tmod_eq_emod_of_nonneg (by omega)]; rfl
    have ed : ((V : Nat) : Int).tdiv 256 = ((V / 256 : Nat) : Int) := by rw [Int.tdiv_eq_ediv_of_nonneg (by omega)]; rfl
    have ew : IntKind.u64.wrap ((V / 256 : Nat) : Int) = ((V / 256 : Nat) : Int) := u64w (by omega)
    have e5 : IntKind.i64.wrap ((j : Int) + 1) = ((j + 1 : Nat) : Int) := by rw [wrap_id (by omega)]; omega
    have w8 : ∀ z : Nat, IntKind.u8.wrap ((z % 256 : Nat) : Int) = IntKind.u8.wrap ((z : Nat) : Int) := fun z => by simp [IntKind.wrap, IntKind.bits, IntKind.signed]
    have hcell : Value.int .u8 (IntKind.u8.wrap (((V : Nat) : Int).tmod 256)) = u8v (byteOf .i64 n j) := by
      unfold byteOf
      rw [u8v_ofNat (u8_wrap_in _), hb, et, w8]
    rw [hcell, ed, ew, e5]
    refine ⟨by decide, ⟨rfl, trivial⟩, mk_of hs fun r w hs => ?_⟩
    refine b2s_pt (k := 0) (l := [byteOf .i64 n j]) hs rfl rfl ?_
    rw [bs_append, ← le_succ]
    refine ⟨by rw [bs_size, bs_size, le_length]; simp; omega, by decide, ?_⟩
    exact ⟨⟨j + 1, by rw [hnext], by omega, hs.drop⟩, by dsimp only; omega⟩
  · have : q.toNat = j := by omega
    rw [this] at hK
    exact hK _ hs

theorem rLeaf_spec {n i : Int} {s : ByteArray} {K : VK} (h : St W w L) (hs : s.size ≤ 104) (hK : ∀ w', St W w' L → K (.string (bs (leafL n i s))) w') : bondstoreref05_Bytes n i s K w := by
  have hd : s.data.toList.length = s.size := rfl
  unfold bondstoreref05_Bytes
  refine rInt_spec h fun w h => ?_
  rw [show (min2 (max2 8 1) 8).toNat = 8 from rfl]
  simp only [nn_some, add_mk, Nat.zero_add, Nat.add_zero, Nat.reduceAdd, Nat.reduceMul, Option.isNone_some, Option.isNone_none, br_true, br_false, Bool.not_true, Bool.not_false, xI_eq, xB_eq, xS_eq, xP_eq, xL_eq, x0_eq, x2_eq, x3_eq, chk_eq, true_and, and_true, List.set_cons_zero, List.set_cons_succ, List.eraseIdx_cons_zero, List.eraseIdx_cons_succ]
  refine rInt_spec h fun w h => ?_
  rw [show (min2 (max2 2 1) 8).toNat = 2 from rfl]
  simp only [nn_some, add_mk, Nat.zero_add, Nat.add_zero, Nat.reduceAdd, Nat.reduceMul, Option.isNone_some, Option.isNone_none, br_true, br_false, Bool.not_true, Bool.not_false, xI_eq, xB_eq, xS_eq, xP_eq, xL_eq, x0_eq, x2_eq, x3_eq, chk_eq, true_and, and_true, List.set_cons_zero, List.set_cons_succ, List.eraseIdx_cons_zero, List.eraseIdx_cons_succ]
  refine ⟨by rw [bs_size, bs_size, le_length, le_length]; omega, ?_⟩
  refine rInt_spec h fun w h => ?_
  rw [show (min2 (max2 2 1) 8).toNat = 2 from rfl]
  simp only [nn_some, add_mk, Nat.zero_add, Nat.add_zero, Nat.reduceAdd, Nat.reduceMul, Option.isNone_some, Option.isNone_none, br_true, br_false, Bool.not_true, Bool.not_false, xI_eq, xB_eq, xS_eq, xP_eq, xL_eq, x0_eq, x2_eq, x3_eq, chk_eq, true_and, and_true, List.set_cons_zero, List.set_cons_succ, List.eraseIdx_cons_zero, List.eraseIdx_cons_succ]
  rw [bs_append, bs_append]
  have e1 : bs (le .i64 8 n ++ le .i64 2 i ++ le .i64 2 s.size) ++ s = bs (le .i64 8 n ++ le .i64 2 i ++ le .i64 2 s.size ++ s.data.toList) := by
    rw [← bs_append _ s.data.toList]; rfl
  rw [e1]
  refine ⟨by rw [bs_size, bs_size, List.length_append, le_length, le_length, le_length]; omega, by rw [bs_size, List.length_append, List.length_append, le_length, le_length, le_length]; omega, ?_⟩
  generalize hp : le .i64 8 n ++ le .i64 2 i ++ le .i64 2 s.size ++ s.data.toList = p
  have hpl : p.length = 12 + s.size := by rw [← hp]; simp only [List.length_append, le_length, hd]
  refine ⟨fun us w' => ∃ j : Nat, us = [.string .empty, .string (bs (p ++ List.replicate j 0))] ∧ j ≤ 104 - s.size ∧ St W w' L, fun us _ => match us with | [_, .string x] => 116 - x.size | _ => 0, ⟨0, by rw [List.replicate_zero, List.append_nil], Nat.zero_le _, h⟩, ?_⟩
  rintro s5 s6 w2 ⟨j, he, hj, hs2⟩
  cases he
  have hsz : (bs (p ++ List.replicate j 0)).size = 12 + s.size + j := by rw [bs_size, List.length_append, List.length_replicate, hpl]
  rw [hsz]
  refine br_dec (fun hlt => ?_) (fun hge => ?_)
  · have ez : bs (p ++ List.replicate j 0) ++ (⟨#[0]⟩ : ByteArray) = bs (p ++ List.replicate (j + 1) 0) := by
      rw [List.replicate_succ', ← List.append_assoc, ← bs_append (p ++ List.replicate j 0)]; rfl
    rw [ez]
    refine ⟨by have : (⟨#[0]⟩ : ByteArray).size = 1 := rfl; rw [this]; omega, ?_⟩
    refine ⟨⟨j + 1, rfl, by omega, hs2⟩, ?_⟩
    show 116 - (bs (p ++ List.replicate (j + 1) 0)).size < 116 - (bs (p ++ List.replicate j 0)).size
    rw [hsz, bs_size, List.length_append, List.length_replicate, hpl]; omega
  · have hj2 : j = 104 - s.size := by omega
    subst hj2
    have epre : p ++ List.replicate (104 - s.size) 0 = pre n i s := by rw [← hp]; rfl
    rw [epre]
    have hprel := pre_length (n := n) (i := i) hs
    refine rSum_spec (by rw [bs_size, hprel]; decide) ?_
    simp only [nn_some, add_mk, Nat.zero_add, Nat.add_zero, Nat.reduceAdd, Nat.reduceMul, Option.isNone_some, Option.isNone_none, br_true, br_false, Bool.not_true, Bool.not_false, xI_eq, xB_eq, xS_eq, xP_eq, xL_eq, x0_eq, x2_eq, x3_eq, chk_eq, true_and, and_true, List.set_cons_zero, List.set_cons_succ, List.eraseIdx_cons_zero, List.eraseIdx_cons_succ]
    refine rBytes4_spec hs2 (u32_wrap_in _) fun w h => ?_
    simp only [nn_some, add_mk, Nat.zero_add, Nat.add_zero, Nat.reduceAdd, Nat.reduceMul, Option.isNone_some, Option.isNone_none, br_true, br_false, Bool.not_true, Bool.not_false, xI_eq, xB_eq, xS_eq, xP_eq, xL_eq, x0_eq, x2_eq, x3_eq, chk_eq, true_and, and_true, List.set_cons_zero, List.set_cons_succ, List.eraseIdx_cons_zero, List.eraseIdx_cons_succ]
    have hc : (le32 (sum32 0 (pre n i s))).length = 4 := le_length _ _ _
    have e2 : (bs (pre n i s)).data.toList = pre n i s := rfl
    rw [e2]
    refine ⟨by rw [bs_size, hc]; omega, ?_⟩
    refine rInt_spec h fun w h => ?_
    rw [show (min2 (max2 8 1) 8).toNat = 8 from rfl]
    simp only [nn_some, add_mk, Nat.zero_add, Nat.add_zero, Nat.reduceAdd, Nat.reduceMul, Option.isNone_some, Option.isNone_none, br_true, br_false, Bool.not_true, Bool.not_false, xI_eq, xB_eq, xS_eq, xP_eq, xL_eq, x0_eq, x2_eq, x3_eq, chk_eq, true_and, and_true, List.set_cons_zero, List.set_cons_succ, List.eraseIdx_cons_zero, List.eraseIdx_cons_succ]
    rw [bs_append, bs_append]
    refine ⟨by rw [bs_size, bs_size, List.length_append, hprel, hc, le_length]; decide, ?_⟩
    exact hK w h

theorem rPart_spec {s : ByteArray} {i : Nat} {K : VK} (hi : i < 5000) (hs : s.size ≤ reachBytes) (hK : K (.string (part s i)) w) : bondstoreref05_Part s i K w := by
  have hs' : s.size ≤ 140737488351232 := hs
  unfold bondstoreref05_Part
  have e1 : IntKind.i64.wrap (104 * (i : Int)) = ((104 * i : Nat) : Int) := by rw [wrap_id (by omega)]; omega
  have e2 : IntKind.i64.wrap (((104 * i : Nat) : Int) + 104) = ((104 * (i + 1) : Nat) : Int) := by rw [wrap_id (by omega)]; omega
  rw [e1, e2]
  have m1 : min2 ((104 * i : Nat) : Int) (s.size : Int) = ((min (104 * i) s.size : Nat) : Int) := by unfold min2; split <;> omega
  have m2 : min2 ((104 * (i + 1) : Nat) : Int) (s.size : Int) = ((min (104 * (i + 1)) s.size : Nat) : Int) := by unfold min2; split <;> omega
  rw [m1, m2]
  unfold slStr
  dsimp only
  have e3 : s.extract ((min (104 * i) s.size : Nat) : Int).toNat ((min (104 * (i + 1)) s.size : Nat) : Int).toNat = part s i := by
    rw [Int.toNat_natCast, Int.toNat_natCast]
    apply bytes_ext
    unfold part
    rw [extract_toList, extract_toList]
    by_cases h : 104 * i ≤ s.size
    · rw [Nat.min_eq_left h, List.take_eq_take_iff, List.length_drop, toList_length]; omega
    · rw [List.drop_of_length_le (by rw [toList_length]; omega), List.drop_of_length_le (by rw [toList_length]; omega)]
      simp
  refine ⟨?_, ?_⟩
  · omega
  · first
      | (rw [e3]; exact hK)
      | (refine ⟨by omega, ?_⟩; rw [e3]; exact hK)
end
end Go.Sep
