/- Layer 5: leaves, and laying them. -/
import Derived.Test.YtidhimamegfdaaaDoorSt0
namespace Go.Sep
open Go.Den Go.RowKit Go.Prog Go.Plat
set_option linter.unusedSimpArgs false
set_option linter.unusedVariables false

def Good (n i : Int) (s : ByteArray) : Prop := 1 ≤ n ∧ n ≤ 1152921504606846976 ∧ 0 ≤ i ∧ i < 4096 ∧ s.size ≤ 104
instance (n i : Int) (s : ByteArray) : Decidable (Good n i s) := by unfold Good; infer_instance

/-- A leaf's bytes ahead of the sum. -/
def pre (n i : Int) (s : ByteArray) : List UInt8 := le .i64 8 n ++ le .i64 2 i ++ le .i64 2 s.size ++ s.data.toList ++ List.replicate (104 - s.size) 0
def leafL (n i : Int) (s : ByteArray) : List UInt8 := pre n i s ++ le32 (sum32 0 (pre n i s)) ++ le .i64 8 n
def leaf (n i : Int) (s : ByteArray) : ByteArray := if Good n i s then bs (leafL n i s) else .empty

theorem pre_length {n i : Int} {s : ByteArray} (h : s.size ≤ 104) : (pre n i s).length = 116 := by
  have : s.data.toList.length = s.size := rfl
  simp only [pre, List.length_append, le_length, List.length_replicate]; omega
theorem leafL_length {n i : Int} {s : ByteArray} (h : s.size ≤ 104) : (leafL n i s).length = 128 := by
  simp only [leafL, List.length_append, le_length, pre_length h, le32]
theorem leaf_size {n i : Int} {s : ByteArray} (h : Good n i s) : (leaf n i s).size = 128 := by
  unfold leaf; rw [if_pos h, bs_size, leafL_length h.2.2.2.2]

theorem u32_wrap_in (n : Int) : 0 ≤ IntKind.u32.wrap n ∧ IntKind.u32.wrap n < 4294967296 := by
  simp [IntKind.wrap, IntKind.bits, IntKind.signed]; omega

section
variable {W w : World} {L : List HP} {k d : Nat} {D : Disk}

theorem good_spec {n i : Int} {s : ByteArray} {K : VK} (h : St W w L) (hK : ∀ w', St W w' L → K (.bool (decide (Good n i s))) w') : stamp_good [.int .i64 n, .int .i64 i, .string s] K w := by
  unfold stamp_good
  refine mk_of h fun r w hs => ?_
  have hh := hK w hs.drop
  simp only [nn_some, add_mk, Nat.zero_add, Nat.add_zero, Nat.reduceAdd, Nat.reduceMul, Option.isNone_some, Option.isNone_none, br_true, br_false, Bool.not_true, Bool.not_false, xI_eq, xB_eq, xS_eq, xP_eq, xL_eq, x0_eq, x2_eq, x3_eq, chk_eq, true_and, and_true, List.set_cons_zero, List.set_cons_succ, List.eraseIdx_cons_zero, List.eraseIdx_cons_succ]
  refine ld_pt (k := 0) hs rfl rfl ?_
  simp only [nn_some, add_mk, Nat.zero_add, Nat.add_zero, Nat.reduceAdd, Nat.reduceMul, Option.isNone_some, Option.isNone_none, br_true, br_false, Bool.not_true, Bool.not_false, xI_eq, xB_eq, xS_eq, xP_eq, xL_eq, x0_eq, x2_eq, x3_eq, chk_eq, true_and, and_true, List.set_cons_zero, List.set_cons_succ, List.eraseIdx_cons_zero, List.eraseIdx_cons_succ]
  refine br_dec (fun h1 => ?_) (fun h1 => ?_)
  · refine ld_pt (k := 0) hs rfl rfl ?_
    simp only [nn_some, add_mk, Nat.zero_add, Nat.add_zero, Nat.reduceAdd, Nat.reduceMul, Option.isNone_some, Option.isNone_none, br_true, br_false, Bool.not_true, Bool.not_false, xI_eq, xB_eq, xS_eq, xP_eq, xL_eq, x0_eq, x2_eq, x3_eq, chk_eq, true_and, and_true, List.set_cons_zero, List.set_cons_succ, List.eraseIdx_cons_zero, List.eraseIdx_cons_succ]
    refine br_dec (fun h2 => ?_) (fun h2 => ?_)
    · refine ld_pt (k := 0) hs rfl rfl ?_
      simp only [nn_some, add_mk, Nat.zero_add, Nat.add_zero, Nat.reduceAdd, Nat.reduceMul, Option.isNone_some, Option.isNone_none, br_true, br_false, Bool.not_true, Bool.not_false, xI_eq, xB_eq, xS_eq, xP_eq, xL_eq, x0_eq, x2_eq, x3_eq, chk_eq, true_and, and_true, List.set_cons_zero, List.set_cons_succ, List.eraseIdx_cons_zero, List.eraseIdx_cons_succ]
      refine br_dec (fun h3 => ?_) (fun h3 => ?_)
      · refine ld_pt (k := 0) hs rfl rfl ?_
        simp only [nn_some, add_mk, Nat.zero_add, Nat.add_zero, Nat.reduceAdd, Nat.reduceMul, Option.isNone_some, Option.isNone_none, br_true, br_false, Bool.not_true, Bool.not_false, xI_eq, xB_eq, xS_eq, xP_eq, xL_eq, x0_eq, x2_eq, x3_eq, chk_eq, true_and, and_true, List.set_cons_zero, List.set_cons_succ, List.eraseIdx_cons_zero, List.eraseIdx_cons_succ]
        refine br_dec (fun h4 => ?_) (fun h4 => ?_)
        · refine ld_pt (k := 0) hs rfl rfl ?_
          simp only [nn_some, add_mk, Nat.zero_add, Nat.add_zero, Nat.reduceAdd, Nat.reduceMul, Option.isNone_some, Option.isNone_none, br_true, br_false, Bool.not_true, Bool.not_false, xI_eq, xB_eq, xS_eq, xP_eq, xL_eq, x0_eq, x2_eq, x3_eq, chk_eq, true_and, and_true, List.set_cons_zero, List.set_cons_succ, List.eraseIdx_cons_zero, List.eraseIdx_cons_succ]
          have : decide ((s.size : Int) ≤ 104) = decide (Good n i s) := by
            rw [decide_eq_decide]; unfold Good; omega
          rw [this]; exact hh
        · have : decide (Good n i s) = false := decide_eq_false (by unfold Good; omega)
          rw [this] at hh; exact hh
      · have : decide (Good n i s) = false := decide_eq_false (by unfold Good; omega)
        rw [this] at hh; exact hh
    · have : decide (Good n i s) = false := decide_eq_false (by unfold Good; omega)
      rw [this] at hh; exact hh
  · have : decide (Good n i s) = false := decide_eq_false (by unfold Good; omega)
    rw [this] at hh; exact hh

theorem Bytes_spec {n i : Int} {s : ByteArray} {K : VK} (h : St W w L) (hK : ∀ w', St W w' L → K (.tuple ⟨[.string (leaf n i s), .int .i64 (if Good n i s then 0 else 1)]⟩) w') :
    stamp_Bytes [.int .i64 n, .int .i64 i, .string s] K w := by
  unfold stamp_Bytes
  refine mk_of h fun r w hs => ?_
  refine ldN_pt (k := 0) (xs := [.int .i64 n, .int .i64 i, .string s]) hs rfl rfl (fun j v hj => by rw [Nat.zero_add]; exact hj) ?_
  refine good_spec hs fun w hs => ?_
  simp only [nn_some, add_mk, Nat.zero_add, Nat.add_zero, Nat.reduceAdd, Nat.reduceMul, Option.isNone_some, Option.isNone_none, br_true, br_false, Bool.not_true, Bool.not_false, xI_eq, xB_eq, xS_eq, xP_eq, xL_eq, x0_eq, x2_eq, x3_eq, chk_eq, true_and, and_true, List.set_cons_zero, List.set_cons_succ, List.eraseIdx_cons_zero, List.eraseIdx_cons_succ]
  by_cases hg : Good n i s
  · have hsz := hg.2.2.2.2
    have e0 : decide (Good n i s) = true := decide_eq_true hg
    unfold leaf at hK
    rw [if_pos hg, if_pos hg] at hK
    rw [e0]
    simp only [nn_some, add_mk, Nat.zero_add, Nat.add_zero, Nat.reduceAdd, Nat.reduceMul, Option.isNone_some, Option.isNone_none, br_true, br_false, Bool.not_true, Bool.not_false, xI_eq, xB_eq, xS_eq, xP_eq, xL_eq, x0_eq, x2_eq, x3_eq, chk_eq, true_and, and_true, List.set_cons_zero, List.set_cons_succ, List.eraseIdx_cons_zero, List.eraseIdx_cons_succ]
    refine mk_of hs fun p w hs => ?_
    have hs : St W w (buf p [] :: pt r [.int .i64 n, .int .i64 i, .string s] :: L) := by
      have h2 := (hs.push (A := own none 0 0 1 (([] : List UInt8).map u8v)) (own_nil 1)).perm (List.Perm.swap _ _ _)
      exact buf_close (k := 0) (L := buf p [] :: pt r [.int .i64 n, .int .i64 i, .string s] :: L) (A := buf p []) rfl rfl h2
    have hd : s.data.toList.length = s.size := rfl
    refine ld_pt (k := 1) hs rfl rfl ?_
    simp only [nn_some, add_mk, Nat.zero_add, Nat.add_zero, Nat.reduceAdd, Nat.reduceMul, Option.isNone_some, Option.isNone_none, br_true, br_false, Bool.not_true, Bool.not_false, xI_eq, xB_eq, xS_eq, xP_eq, xL_eq, x0_eq, x2_eq, x3_eq, chk_eq, true_and, and_true, List.set_cons_zero, List.set_cons_succ, List.eraseIdx_cons_zero, List.eraseIdx_cons_succ]
    refine Writer_Int_spec (k := 0) hs rfl (by simp) fun w hs => ?_
    rw [show (min2 (max2 8 1) 8).toNat = 8 from rfl] at hs
    simp only [nn_some, add_mk, Nat.zero_add, Nat.add_zero, Nat.reduceAdd, Nat.reduceMul, Option.isNone_some, Option.isNone_none, br_true, br_false, Bool.not_true, Bool.not_false, xI_eq, xB_eq, xS_eq, xP_eq, xL_eq, x0_eq, x2_eq, x3_eq, chk_eq, true_and, and_true, List.set_cons_zero, List.set_cons_succ, List.eraseIdx_cons_zero, List.eraseIdx_cons_succ] at hs ⊢
    refine ld_pt (k := 1) hs rfl rfl ?_
    simp only [nn_some, add_mk, Nat.zero_add, Nat.add_zero, Nat.reduceAdd, Nat.reduceMul, Option.isNone_some, Option.isNone_none, br_true, br_false, Bool.not_true, Bool.not_false, xI_eq, xB_eq, xS_eq, xP_eq, xL_eq, x0_eq, x2_eq, x3_eq, chk_eq, true_and, and_true, List.set_cons_zero, List.set_cons_succ, List.eraseIdx_cons_zero, List.eraseIdx_cons_succ]
    refine Writer_Int_spec (k := 0) hs rfl (by simp only [List.length_append, le_length, List.length_nil]; omega) fun w hs => ?_
    rw [show (min2 (max2 2 1) 8).toNat = 2 from rfl] at hs
    simp only [nn_some, add_mk, Nat.zero_add, Nat.add_zero, Nat.reduceAdd, Nat.reduceMul, Option.isNone_some, Option.isNone_none, br_true, br_false, Bool.not_true, Bool.not_false, xI_eq, xB_eq, xS_eq, xP_eq, xL_eq, x0_eq, x2_eq, x3_eq, chk_eq, true_and, and_true, List.set_cons_zero, List.set_cons_succ, List.eraseIdx_cons_zero, List.eraseIdx_cons_succ] at hs ⊢
    refine ld_pt (k := 1) hs rfl rfl ?_
    simp only [nn_some, add_mk, Nat.zero_add, Nat.add_zero, Nat.reduceAdd, Nat.reduceMul, Option.isNone_some, Option.isNone_none, br_true, br_false, Bool.not_true, Bool.not_false, xI_eq, xB_eq, xS_eq, xP_eq, xL_eq, x0_eq, x2_eq, x3_eq, chk_eq, true_and, and_true, List.set_cons_zero, List.set_cons_succ, List.eraseIdx_cons_zero, List.eraseIdx_cons_succ]
    refine Writer_Int_spec (k := 0) hs rfl (by simp only [List.length_append, le_length, List.length_nil]; omega) fun w hs => ?_
    rw [show (min2 (max2 2 1) 8).toNat = 2 from rfl] at hs
    simp only [nn_some, add_mk, Nat.zero_add, Nat.add_zero, Nat.reduceAdd, Nat.reduceMul, Option.isNone_some, Option.isNone_none, br_true, br_false, Bool.not_true, Bool.not_false, xI_eq, xB_eq, xS_eq, xP_eq, xL_eq, x0_eq, x2_eq, x3_eq, chk_eq, true_and, and_true, List.set_cons_zero, List.set_cons_succ, List.eraseIdx_cons_zero, List.eraseIdx_cons_succ] at hs ⊢
    refine ld_pt (k := 1) hs rfl rfl ?_
    simp only [nn_some, add_mk, Nat.zero_add, Nat.add_zero, Nat.reduceAdd, Nat.reduceMul, Option.isNone_some, Option.isNone_none, br_true, br_false, Bool.not_true, Bool.not_false, xI_eq, xB_eq, xS_eq, xP_eq, xL_eq, x0_eq, x2_eq, x3_eq, chk_eq, true_and, and_true, List.set_cons_zero, List.set_cons_succ, List.eraseIdx_cons_zero, List.eraseIdx_cons_succ]
    refine Writer_Raw_spec (k := 0) hs rfl (by simp only [List.length_append, le_length, List.length_nil]; omega) fun w hs => ?_
    simp only [nn_some, add_mk, Nat.zero_add, Nat.add_zero, Nat.reduceAdd, Nat.reduceMul, Option.isNone_some, Option.isNone_none, br_true, br_false, Bool.not_true, Bool.not_false, xI_eq, xB_eq, xS_eq, xP_eq, xL_eq, x0_eq, x2_eq, x3_eq, chk_eq, true_and, and_true, List.set_cons_zero, List.set_cons_succ, List.eraseIdx_cons_zero, List.eraseIdx_cons_succ] at hs ⊢
    refine ld_pt (k := 1) hs rfl rfl ?_
    simp only [nn_some, add_mk, Nat.zero_add, Nat.add_zero, Nat.reduceAdd, Nat.reduceMul, Option.isNone_some, Option.isNone_none, br_true, br_false, Bool.not_true, Bool.not_false, xI_eq, xB_eq, xS_eq, xP_eq, xL_eq, x0_eq, x2_eq, x3_eq, chk_eq, true_and, and_true, List.set_cons_zero, List.set_cons_succ, List.eraseIdx_cons_zero, List.eraseIdx_cons_succ]
    have ew : IntKind.i64.wrap (104 - (s.size : Int)) = ((104 - s.size : Nat) : Int) := by rw [wrap_id (by omega)]; omega
    rw [ew]
    refine Repeat_spec hs (by omega) (by rw [Int.toNat_natCast]; have : (⟨#[0]⟩ : ByteArray).size = 1 := rfl; rw [this]; omega) (by omega) fun w hs => ?_
    have er : (⟨(repL (⟨#[0]⟩ : ByteArray).data.toList (((104 - s.size : Nat) : Int).toNat)).toArray⟩ : ByteArray) = bs (List.replicate (104 - s.size) 0) := by
      rw [Int.toNat_natCast]
      show bs (repL [0] (104 - s.size)) = _
      rw [repL_one]
    rw [er]
    simp only [nn_some, add_mk, Nat.zero_add, Nat.add_zero, Nat.reduceAdd, Nat.reduceMul, Option.isNone_some, Option.isNone_none, br_true, br_false, Bool.not_true, Bool.not_false, xI_eq, xB_eq, xS_eq, xP_eq, xL_eq, x0_eq, x2_eq, x3_eq, chk_eq, true_and, and_true, List.set_cons_zero, List.set_cons_succ, List.eraseIdx_cons_zero, List.eraseIdx_cons_succ]
    refine Writer_Raw_spec (k := 0) hs rfl (by rw [bs_size]; simp only [List.length_append, le_length, List.length_nil, List.length_replicate]; omega) fun w hs => ?_
    simp only [nn_some, add_mk, Nat.zero_add, Nat.add_zero, Nat.reduceAdd, Nat.reduceMul, Option.isNone_some, Option.isNone_none, br_true, br_false, Bool.not_true, Bool.not_false, xI_eq, xB_eq, xS_eq, xP_eq, xL_eq, x0_eq, x2_eq, x3_eq, chk_eq, true_and, and_true, List.set_cons_zero, List.set_cons_succ, List.eraseIdx_cons_zero, List.eraseIdx_cons_succ] at hs ⊢
    have ep : [] ++ le .i64 8 n ++ le .i64 2 i ++ le .i64 2 s.size ++ s.data.toList ++ (bs (List.replicate (104 - s.size) 0)).data.toList = pre n i s := rfl
    rw [ep] at hs
    refine Writer_String_spec (k := 0) hs rfl ?_
    simp only [nn_some, add_mk, Nat.zero_add, Nat.add_zero, Nat.reduceAdd, Nat.reduceMul, Option.isNone_some, Option.isNone_none, br_true, br_false, Bool.not_true, Bool.not_false, xI_eq, xB_eq, xS_eq, xP_eq, xL_eq, x0_eq, x2_eq, x3_eq, chk_eq, true_and, and_true, List.set_cons_zero, List.set_cons_succ, List.eraseIdx_cons_zero, List.eraseIdx_cons_succ]
    refine Sum_spec (by rw [bs_size, pre_length hsz]; omega) ?_
    simp only [nn_some, add_mk, Nat.zero_add, Nat.add_zero, Nat.reduceAdd, Nat.reduceMul, Option.isNone_some, Option.isNone_none, br_true, br_false, Bool.not_true, Bool.not_false, xI_eq, xB_eq, xS_eq, xP_eq, xL_eq, x0_eq, x2_eq, x3_eq, chk_eq, true_and, and_true, List.set_cons_zero, List.set_cons_succ, List.eraseIdx_cons_zero, List.eraseIdx_cons_succ]
    refine castBytes_spec hs (u32_wrap_in _) fun w hs => ?_
    simp only [nn_some, add_mk, Nat.zero_add, Nat.add_zero, Nat.reduceAdd, Nat.reduceMul, Option.isNone_some, Option.isNone_none, br_true, br_false, Bool.not_true, Bool.not_false, xI_eq, xB_eq, xS_eq, xP_eq, xL_eq, x0_eq, x2_eq, x3_eq, chk_eq, true_and, and_true, List.set_cons_zero, List.set_cons_succ, List.eraseIdx_cons_zero, List.eraseIdx_cons_succ]
    refine Writer_Raw_spec (k := 0) hs rfl (by rw [bs_size, pre_length hsz]; simp only [le32, le_length]; omega) fun w hs => ?_
    simp only [nn_some, add_mk, Nat.zero_add, Nat.add_zero, Nat.reduceAdd, Nat.reduceMul, Option.isNone_some, Option.isNone_none, br_true, br_false, Bool.not_true, Bool.not_false, xI_eq, xB_eq, xS_eq, xP_eq, xL_eq, x0_eq, x2_eq, x3_eq, chk_eq, true_and, and_true, List.set_cons_zero, List.set_cons_succ, List.eraseIdx_cons_zero, List.eraseIdx_cons_succ] at hs ⊢
    refine ld_pt (k := 1) hs rfl rfl ?_
    simp only [nn_some, add_mk, Nat.zero_add, Nat.add_zero, Nat.reduceAdd, Nat.reduceMul, Option.isNone_some, Option.isNone_none, br_true, br_false, Bool.not_true, Bool.not_false, xI_eq, xB_eq, xS_eq, xP_eq, xL_eq, x0_eq, x2_eq, x3_eq, chk_eq, true_and, and_true, List.set_cons_zero, List.set_cons_succ, List.eraseIdx_cons_zero, List.eraseIdx_cons_succ]
    have ep2 : pre n i s ++ (bs (le32 (sum32 0 (bs (pre n i s)).data.toList))).data.toList = pre n i s ++ le32 (sum32 0 (pre n i s)) := rfl
    rw [ep2] at hs
    refine Writer_Int_spec (k := 0) hs rfl (by simp only [List.length_append, le32, le_length, pre_length hsz]; omega) fun w hs => ?_
    rw [show (min2 (max2 8 1) 8).toNat = 8 from rfl] at hs
    simp only [nn_some, add_mk, Nat.zero_add, Nat.add_zero, Nat.reduceAdd, Nat.reduceMul, Option.isNone_some, Option.isNone_none, br_true, br_false, Bool.not_true, Bool.not_false, xI_eq, xB_eq, xS_eq, xP_eq, xL_eq, x0_eq, x2_eq, x3_eq, chk_eq, true_and, and_true, List.set_cons_zero, List.set_cons_succ, List.eraseIdx_cons_zero, List.eraseIdx_cons_succ] at hs ⊢
    refine Writer_String_spec (k := 0) hs rfl ?_
    simp only [nn_some, add_mk, Nat.zero_add, Nat.add_zero, Nat.reduceAdd, Nat.reduceMul, Option.isNone_some, Option.isNone_none, br_true, br_false, Bool.not_true, Bool.not_false, xI_eq, xB_eq, xS_eq, xP_eq, xL_eq, x0_eq, x2_eq, x3_eq, chk_eq, true_and, and_true, List.set_cons_zero, List.set_cons_succ, List.eraseIdx_cons_zero, List.eraseIdx_cons_succ]
    exact hK w hs.drop.drop
  · have e0 : decide (Good n i s) = false := decide_eq_false hg
    unfold leaf at hK
    rw [if_neg hg, if_neg hg] at hK
    rw [e0]
    simp only [nn_some, add_mk, Nat.zero_add, Nat.add_zero, Nat.reduceAdd, Nat.reduceMul, Option.isNone_some, Option.isNone_none, br_true, br_false, Bool.not_true, Bool.not_false, xI_eq, xB_eq, xS_eq, xP_eq, xL_eq, x0_eq, x2_eq, x3_eq, chk_eq, true_and, and_true, List.set_cons_zero, List.set_cons_succ, List.eraseIdx_cons_zero, List.eraseIdx_cons_succ]
    exact hK w hs.drop

/-- How many sectors so many bytes take. -/
def cnt (n : Nat) : Nat := if n = 0 then 1 else (n + 103) / 104

theorem cnt_pos (n : Nat) : 1 ≤ cnt n := by unfold cnt; split <;> omega
theorem cnt_lt {n j : Nat} (hj : 1 ≤ j) : 104 * j < n ↔ j < cnt n := by unfold cnt; split <;> omega

theorem Count_spec {n : Nat} {K : VK} (hn : n < 1099511627776000) (hK : K (.int .i64 (cnt n)) w) : stamp_Count n K w := by
  unfold stamp_Count
  refine ⟨by decide, by decide, ?_⟩
  have e0 : max2 (n : Int) 0 = n := by unfold max2; split <;> omega
  have e1 : (n : Int).tdiv 104 = ((n / 104 : Nat) : Int) := by rw [Int.tdiv_eq_ediv_of_nonneg (by omega)]; rfl
  have e2 : (n : Int).tmod 104 = ((n % 104 : Nat) : Int) := by rw [Int.tmod_eq_emod_of_nonneg (by omega)]; rfl
  rw [e0, e1, e2]
  have e3 : max2 (IntKind.i64.wrap (IntKind.i64.wrap ((n / 104 : Nat) : Int) + min2 ((n % 104 : Nat) : Int) 1)) 1 = (cnt n : Int) := by
    have h1 : IntKind.i64.wrap ((n / 104 : Nat) : Int) = ((n / 104 : Nat) : Int) := wrap_id (by omega)
    rw [h1]
    have h2 : min2 ((n % 104 : Nat) : Int) 1 = ((min (n % 104) 1 : Nat) : Int) := by unfold min2; split <;> omega
    rw [h2, wrap_id (by omega)]
    unfold max2 cnt
    split <;> split <;> omega
  rw [e3]; exact hK

theorem rCount_spec {n : Nat} {K : VK} (hn : n < 1099511627776000) (hK : K (.int .i64 (cnt n)) w) : bondstoreref05_Count n K w := by
  unfold bondstoreref05_Count
  refine ⟨fun us w' => ∃ j : Nat, us = [.int .i64 0, .int .i64 j] ∧ 1 ≤ j ∧ j ≤ cnt n ∧ isW w w', fun us _ => match us with | [_, .int _ j] => cnt n - j.toNat | _ => 0, ⟨1, rfl, Nat.le_refl _, cnt_pos n, rfl⟩, ?_⟩
  rintro n2 n3 w2 ⟨j, he, h1, hj, hw⟩
  obtain rfl : w2 = w := hw
  cases he
  have hcb : cnt n ≤ n + 1 := by unfold cnt; split <;> omega
  have e1 : IntKind.i64.wrap ((j : Int) * 104) = (j : Int) * 104 := wrap_id (by
    have : 104 * (cnt n - 1) ≤ n := by
      by_cases h2 : 2 ≤ cnt n
      · have := (cnt_lt (n := n) (j := cnt n - 1) (by omega)).2 (by omega)
        omega
      · omega
    omega)
  rw [e1]
  have hc := cnt_lt (n := n) h1
  refine br_dec (fun hlt => ?_) (fun hge => ?_)
  · have e5 : IntKind.i64.wrap ((j : Int) + 1) = ((j + 1 : Nat) : Int) := by rw [wrap_id (by omega)]; omega
    rw [e5]
    exact ⟨⟨j + 1, rfl, by omega, by omega, rfl⟩, by dsimp only; omega⟩
  · have : j = cnt n := by omega
    subst this; exact hK

theorem alive5_spec {K : VK} (h : St W w L) (hK : ∀ w', St W w' L → K (.bool true) w') : bondstorelaw05_alive K w := by
  unfold bondstorelaw05_alive
  refine ⟨⟨rfl, rfl, trivial⟩, Bytes_spec h fun w h => ?_⟩
  have hg : Good 1 0 ⟨#[104, 105]⟩ := by decide
  rw [if_pos hg]
  simp only [nn_some, add_mk, Nat.zero_add, Nat.add_zero, Nat.reduceAdd, Nat.reduceMul, Option.isNone_some, Option.isNone_none, br_true, br_false, Bool.not_true, Bool.not_false, xI_eq, xB_eq, xS_eq, xP_eq, xL_eq, x0_eq, x2_eq, x3_eq, chk_eq, true_and, and_true, List.set_cons_zero, List.set_cons_succ, List.eraseIdx_cons_zero, List.eraseIdx_cons_succ]
  simp only [beq_self_eq_true, br_true]
  have e1 : (((leaf 1 0 ⟨#[104, 105]⟩).size : Int) == 128) = true := by rw [leaf_size hg]; rfl
  rw [e1, br_true]
  have c1 : (leaf 1 0 ⟨#[104, 105]⟩).data.toList[(0 : Int).toNat]? = some 1 := by decide +kernel
  have c2 : (leaf 1 0 ⟨#[104, 105]⟩).data.toList[(120 : Int).toNat]? = some 1 := by decide +kernel
  refine ⟨1, ⟨by decide, c1⟩, ?_⟩
  have t1 : (((1 : UInt8).toNat : Int) == 1) = true := by decide
  dsimp only
  rw [t1, br_true]
  refine ⟨1, ⟨by decide, c2⟩, ?_⟩
  dsimp only
  rw [t1, br_true]
  refine Count_spec (n := 105) (by decide) ?_
  simp only [nn_some, add_mk, Nat.zero_add, Nat.add_zero, Nat.reduceAdd, Nat.reduceMul, Option.isNone_some, Option.isNone_none, br_true, br_false, Bool.not_true, Bool.not_false, xI_eq, xB_eq, xS_eq, xP_eq, xL_eq, x0_eq, x2_eq, x3_eq, chk_eq, true_and, and_true, List.set_cons_zero, List.set_cons_succ, List.eraseIdx_cons_zero, List.eraseIdx_cons_succ]
  exact hK w h
end
end Go.Sep
