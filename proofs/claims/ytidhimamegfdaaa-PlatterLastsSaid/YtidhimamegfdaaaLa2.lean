/- The document's disk: its calls. -/
import Derived.Test.YtidhimamegfdaaaLa1
namespace Go.Sep
open Go.Den Go.RowKit Go.Prog Go.Plat
set_option linter.unusedSimpArgs false
set_option linter.unusedVariables false

theorem u64_wrap_id {n : Int} (h : 0 ≤ n ∧ n < 18446744073709551616) : IntKind.u64.wrap n = n := by
  simp [IntKind.wrap, IntKind.bits, IntKind.signed]; omega

theorem and_one {x : Int} (h : 0 ≤ x ∧ x < 18446744073709551616) : isum .u64 .and x 1 = x % 2 := by
  obtain ⟨m, rfl⟩ := Int.eq_ofNat_of_zero_le h.1
  have e : (BitVec.ofInt 64 (m : Int) &&& BitVec.ofInt 64 1).toNat = m % 2 := by
    rw [BitVec.toNat_and]
    have e1 : (BitVec.ofInt 64 (m : Int)).toNat = m := by
      simp only [BitVec.toNat_ofInt]; omega
    have e2 : (BitVec.ofInt 64 1).toNat = 1 := rfl
    rw [e1, e2, Nat.and_one_is_mod]
  show IntKind.u64.wrap (((BitVec.ofInt 64 (m : Int) &&& BitVec.ofInt 64 1).toNat : Nat) : Int) = _
  rw [e, u64_wrap_id (by omega)]
  omega

theorem shr_in {x y : Int} (h : 0 ≤ x ∧ x < 18446744073709551616) : 0 ≤ shr .u64 x y ∧ shr .u64 x y < 18446744073709551616 := by
  unfold shr
  have hp : (0 : Int) < 2 ^ (min y.toNat IntKind.u64.bits) := Int.pow_pos (by decide)
  rw [Int.fdiv_eq_ediv_of_nonneg _ (Int.le_of_lt hp)]
  refine ⟨Int.ediv_nonneg h.1 (Int.le_of_lt hp), Int.lt_of_le_of_lt (Int.ediv_le_self _ h.1) h.2⟩

theorem bit_tmod {mask k : Int} (h : (Lit.int .u64 mask).wf = true) : (((shr .u64 mask (min2 k 63)).tmod (2 : Int)) == 1) = Disk.bit mask k := by
  have hm : 0 ≤ mask ∧ mask < 18446744073709551616 := by
    simp [Lit.wf, IntKind.min, IntKind.max, IntKind.signed, IntKind.bits] at h; omega
  unfold Disk.bit
  have h1 := shr_in (y := min2 k 63) hm
  rw [and_one h1]
  generalize shr .u64 mask (min2 k 63) = x at *
  rw [Int.tmod_eq_emod_of_nonneg h1.1]

theorem bit_all (k : Nat) : Disk.bit 18446744073709551615 k = true := by
  unfold Disk.bit
  have key : ∀ j : Fin 64, (isum .u64 .and (shr .u64 18446744073709551615 (j.val : Int)) 1 == 1) = true := by decide +kernel
  have h1 : ∃ j : Fin 64, min2 (k : Int) 63 = (j.val : Int) := by
    unfold min2
    by_cases h : (63 : Int) < k
    · rw [if_pos h]; exact ⟨63, rfl⟩
    · rw [if_neg h]; exact ⟨⟨k, by omega⟩, rfl⟩
  obtain ⟨j, hj⟩ := h1
  rw [hj]; exact key j

namespace Rk
/-- An operation is counted, and perhaps it fails: the document's way. -/
def tick (D : Disk) : Disk := { D with ops := IntKind.i64.wrap (D.ops + 1), arm := IntKind.i64.wrap (D.arm - 1) }
def fails (D : Disk) : Bool := IntKind.i64.wrap (D.arm - 1) == 0
def write (D : Disk) (i : Int) (s : ByteArray) : Disk × Int :=
  if ¬ D.is i ∨ 128 < s.size then (D, 1) else if fails D then (tick D, 8) else ({ tick D with later := D.later ++ [(i, Disk.pad s)] }, 0)
def crash (D : Disk) (mask torn cut : Int) : Disk := { D with safe := crashed mask torn (min2 (max2 cut 0) 128) D.safe D.later D.later.length, later := [] }
def sync (D : Disk) : Disk × Int := if fails D then (tick D, 8) else ({ tick D with safe := D.later.foldl Disk.put D.safe, later := [] }, 0)
def armed (D : Disk) (n : Int) : Disk := { D with arm := n }
end Rk

theorem crashed_all (c : Int) (safe : List ByteArray) (later : List (Int × ByteArray)) : ∀ j, j ≤ later.length → crashed 18446744073709551615 (-1) c safe later j = (later.take j).foldl Disk.put safe
  | 0, _ => rfl
  | j + 1, h => by
    have hlt : j < later.length := by omega
    simp only [crashed, List.getElem?_eq_getElem hlt]
    rw [crashed_all c safe later j (by omega), List.take_succ_eq_append_getElem hlt, List.foldl_append]
    unfold Disk.crashAt
    rw [if_neg (by omega), if_pos (bit_all j)]
    rfl

section
variable {W w : World} {L : List HP} {k d : Nat} {D : Disk}

theorem rfails_spec {K : VK} (h : St W w L) (hk : L[k]? = some (rdisk d D)) (hK : ∀ w', St W w' (L.set k (rdisk d (Rk.tick D))) → K (.bool (Rk.fails D)) w') : bondstoreref04_Disk_fails (some ⟨d, 0, none⟩) K w := by
  obtain ⟨sb, sc, ab, ac, tb, tc, hs⟩ := rdisk_open h hk
  unfold bondstoreref04_Disk_fails
  simp only [nn_some, add_mk, Nat.zero_add, Nat.add_zero, Nat.reduceAdd, Nat.reduceMul, Option.isNone_some, Option.isNone_none, br_true, br_false, Bool.not_true, Bool.not_false, xI_eq, xB_eq, xS_eq, xP_eq, xL_eq, x0_eq, x2_eq, x3_eq, chk_eq, true_and, and_true, List.set_cons_zero, List.set_cons_succ, List.eraseIdx_cons_zero, List.eraseIdx_cons_succ]
  refine ld_pt (k := 0) hs rfl rfl ?_
  simp only [nn_some, add_mk, Nat.zero_add, Nat.add_zero, Nat.reduceAdd, Nat.reduceMul, Option.isNone_some, Option.isNone_none, br_true, br_false, Bool.not_true, Bool.not_false, xI_eq, xB_eq, xS_eq, xP_eq, xL_eq, x0_eq, x2_eq, x3_eq, chk_eq, true_and, and_true, List.set_cons_zero, List.set_cons_succ, List.eraseIdx_cons_zero, List.eraseIdx_cons_succ]
  refine st_pt (k := 0) hs rfl (Nat.le_of_ble_eq_true rfl) rfl fun w hs => ?_
  simp only [nn_some, add_mk, Nat.zero_add, Nat.add_zero, Nat.reduceAdd, Nat.reduceMul, Option.isNone_some, Option.isNone_none, br_true, br_false, Bool.not_true, Bool.not_false, xI_eq, xB_eq, xS_eq, xP_eq, xL_eq, x0_eq, x2_eq, x3_eq, chk_eq, true_and, and_true, List.set_cons_zero, List.set_cons_succ, List.eraseIdx_cons_zero, List.eraseIdx_cons_succ] at hs
  refine ld_pt (k := 0) hs rfl rfl ?_
  simp only [nn_some, add_mk, Nat.zero_add, Nat.add_zero, Nat.reduceAdd, Nat.reduceMul, Option.isNone_some, Option.isNone_none, br_true, br_false, Bool.not_true, Bool.not_false, xI_eq, xB_eq, xS_eq, xP_eq, xL_eq, x0_eq, x2_eq, x3_eq, chk_eq, true_and, and_true, List.set_cons_zero, List.set_cons_succ, List.eraseIdx_cons_zero, List.eraseIdx_cons_succ]
  refine st_pt (k := 0) hs rfl (Nat.le_of_ble_eq_true rfl) rfl fun w hs => ?_
  simp only [nn_some, add_mk, Nat.zero_add, Nat.add_zero, Nat.reduceAdd, Nat.reduceMul, Option.isNone_some, Option.isNone_none, br_true, br_false, Bool.not_true, Bool.not_false, xI_eq, xB_eq, xS_eq, xP_eq, xL_eq, x0_eq, x2_eq, x3_eq, chk_eq, true_and, and_true, List.set_cons_zero, List.set_cons_succ, List.eraseIdx_cons_zero, List.eraseIdx_cons_succ] at hs
  refine ld_pt (k := 0) hs rfl rfl ?_
  simp only [nn_some, add_mk, Nat.zero_add, Nat.add_zero, Nat.reduceAdd, Nat.reduceMul, Option.isNone_some, Option.isNone_none, br_true, br_false, Bool.not_true, Bool.not_false, xI_eq, xB_eq, xS_eq, xP_eq, xL_eq, x0_eq, x2_eq, x3_eq, chk_eq, true_and, and_true, List.set_cons_zero, List.set_cons_succ, List.eraseIdx_cons_zero, List.eraseIdx_cons_succ]
  exact hK w (rdisk_close (safe := D.safe) (later := D.later) (ops := IntKind.i64.wrap (D.ops + 1)) (arm := IntKind.i64.wrap (D.arm - 1)) hk rfl rfl hs)

theorem rWrite_j1_spec {i : Int} {s : ByteArray} {b : Bool} {K : VK} (h : St W w L) (hk : L[k]? = some (rdisk d D)) (hok : D.Ok) (hb : b = decide (¬ D.is i ∨ 128 < s.size))
    (hK : ∀ w', St W w' (L.set k (rdisk d (Rk.write D i s).1)) → K (.int .i64 (Rk.write D i s).2) w') : bondstoreref04_Disk_Write.j1 K (some ⟨d, 0, none⟩) i s b w := by
  unfold bondstoreref04_Disk_Write.j1
  refine br_of (fun h1 => ?_) (fun h1 => ?_)
  · have h2 : ¬ D.is i ∨ 128 < s.size := by rw [hb] at h1; exact of_decide_eq_true h1
    unfold Rk.write at hK
    rw [if_pos h2] at hK
    refine hK w ?_
    rw [set_same hk]; exact h
  · have h2 : ¬ (¬ D.is i ∨ 128 < s.size) := by rw [hb] at h1; exact of_decide_eq_false h1
    have hsz : s.size ≤ 128 := by
      by_cases hh : s.size ≤ 128
      · exact hh
      · exact absurd (.inr (by omega)) h2
    refine rfails_spec h hk fun w h => ?_
    simp only [nn_some, add_mk, Nat.zero_add, Nat.add_zero, Nat.reduceAdd, Nat.reduceMul, Option.isNone_some, Option.isNone_none, br_true, br_false, Bool.not_true, Bool.not_false, xI_eq, xB_eq, xS_eq, xP_eq, xL_eq, x0_eq, x2_eq, x3_eq, chk_eq, true_and, and_true, List.set_cons_zero, List.set_cons_succ, List.eraseIdx_cons_zero, List.eraseIdx_cons_succ]
    refine br_of (fun hf => ?_) (fun hf => ?_)
    · unfold Rk.write at hK
      rw [if_neg h2, if_pos hf] at hK
      exact hK w h
    have hk2 : (L.set k (rdisk d (Rk.tick D)))[k]? = some (rdisk d (Rk.tick D)) := set_get hk
    obtain ⟨sb, sc, ab, ac, tb, tc, hs⟩ := rdisk_open h hk2
    have hl : (Rk.tick D).later.length < 1099511627776 := hok.less
    refine ld_pt (k := 0) hs rfl rfl ?_
    simp only [nn_some, add_mk, Nat.zero_add, Nat.add_zero, Nat.reduceAdd, Nat.reduceMul, Option.isNone_some, Option.isNone_none, br_true, br_false, Bool.not_true, Bool.not_false, xI_eq, xB_eq, xS_eq, xP_eq, xL_eq, x0_eq, x2_eq, x3_eq, chk_eq, true_and, and_true, List.set_cons_zero, List.set_cons_succ, List.eraseIdx_cons_zero, List.eraseIdx_cons_succ]
    refine mk_of hs fun r w hs => ?_
    refine appSl_own (k := 3) (ys := [.int .i64 i]) hs rfl (Src_pt (k' := 0) hs rfl rfl fun j v hj => by rw [Nat.zero_add]; exact hj) (by simp) rfl (by omega) (by omega) (by simp [Value.oneCell']) fun b' c' w hs => ?_
    simp only [nn_some, add_mk, Nat.zero_add, Nat.add_zero, Nat.reduceAdd, Nat.reduceMul, Option.isNone_some, Option.isNone_none, br_true, br_false, Bool.not_true, Bool.not_false, xI_eq, xB_eq, xS_eq, xP_eq, xL_eq, x0_eq, x2_eq, x3_eq, chk_eq, true_and, and_true, List.set_cons_zero, List.set_cons_succ, List.eraseIdx_cons_zero, List.eraseIdx_cons_succ] at hs ⊢
    refine st_pt (k := 1) hs rfl (Nat.le_of_ble_eq_true rfl) rfl fun w hs => ?_
    simp only [nn_some, add_mk, Nat.zero_add, Nat.add_zero, Nat.reduceAdd, Nat.reduceMul, Option.isNone_some, Option.isNone_none, br_true, br_false, Bool.not_true, Bool.not_false, xI_eq, xB_eq, xS_eq, xP_eq, xL_eq, x0_eq, x2_eq, x3_eq, chk_eq, true_and, and_true, List.set_cons_zero, List.set_cons_succ, List.eraseIdx_cons_zero, List.eraseIdx_cons_succ] at hs
    refine tick_of hs fun w hs => ?_
    refine ld_pt (k := 1) hs rfl rfl ?_
    simp only [nn_some, add_mk, Nat.zero_add, Nat.add_zero, Nat.reduceAdd, Nat.reduceMul, Option.isNone_some, Option.isNone_none, br_true, br_false, Bool.not_true, Bool.not_false, xI_eq, xB_eq, xS_eq, xP_eq, xL_eq, x0_eq, x2_eq, x3_eq, chk_eq, true_and, and_true, List.set_cons_zero, List.set_cons_succ, List.eraseIdx_cons_zero, List.eraseIdx_cons_succ]
    refine rblank_spec ?_
    simp only [nn_some, add_mk, Nat.zero_add, Nat.add_zero, Nat.reduceAdd, Nat.reduceMul, Option.isNone_some, Option.isNone_none, br_true, br_false, Bool.not_true, Bool.not_false, xI_eq, xB_eq, xS_eq, xP_eq, xL_eq, x0_eq, x2_eq, x3_eq, chk_eq, true_and, and_true, List.set_cons_zero, List.set_cons_succ, List.eraseIdx_cons_zero, List.eraseIdx_cons_succ]
    refine kp_one (k := 1) hs rfl rfl ?_
    unfold slStr
    simp only [nn_some, add_mk, Nat.zero_add, Nat.add_zero, Nat.reduceAdd, Nat.reduceMul, Option.isNone_some, Option.isNone_none, br_true, br_false, Bool.not_true, Bool.not_false, xI_eq, xB_eq, xS_eq, xP_eq, xL_eq, x0_eq, x2_eq, x3_eq, chk_eq, true_and, and_true, List.set_cons_zero, List.set_cons_succ, List.eraseIdx_cons_zero, List.eraseIdx_cons_succ]
    refine ⟨⟨by omega, by rw [zeros_size]; omega⟩, ?_⟩
    have e3 : (zeros 128).extract (s.size : Int).toNat (zeros 128).size = zeros (128 - s.size) := by rw [zeros_size, Int.toNat_natCast]; exact zeros_extract 128 s.size
    rw [e3]
    refine ⟨by rw [zeros_size]; omega, ?_⟩
    refine mk_of hs fun r2 w hs => ?_
    refine kp_one (k := 2) hs rfl rfl ?_
    refine appSl_own (k := 5) (ys := [.string (Disk.pad s)]) hs rfl (Src_pt (k' := 0) hs rfl rfl fun j v hj => by rw [Nat.zero_add]; exact hj) (by simp) rfl (by omega) (by omega) (by simp [Value.oneCell']) fun b'' c'' w hs => ?_
    simp only [nn_some, add_mk, Nat.zero_add, Nat.add_zero, Nat.reduceAdd, Nat.reduceMul, Option.isNone_some, Option.isNone_none, br_true, br_false, Bool.not_true, Bool.not_false, xI_eq, xB_eq, xS_eq, xP_eq, xL_eq, x0_eq, x2_eq, x3_eq, chk_eq, true_and, and_true, List.set_cons_zero, List.set_cons_succ, List.eraseIdx_cons_zero, List.eraseIdx_cons_succ] at hs ⊢
    refine st_pt (k := 2) hs rfl (Nat.le_of_ble_eq_true rfl) rfl fun w hs => ?_
    simp only [nn_some, add_mk, Nat.zero_add, Nat.add_zero, Nat.reduceAdd, Nat.reduceMul, Option.isNone_some, Option.isNone_none, br_true, br_false, Bool.not_true, Bool.not_false, xI_eq, xB_eq, xS_eq, xP_eq, xL_eq, x0_eq, x2_eq, x3_eq, chk_eq, true_and, and_true, List.set_cons_zero, List.set_cons_succ, List.eraseIdx_cons_zero, List.eraseIdx_cons_succ] at hs
    unfold Rk.write at hK
    rw [if_neg h2, if_neg (by rw [hf]; exact Bool.false_ne_true)] at hK
    refine hK w ?_
    have e4 : ((Rk.tick D).later.map fun p => Value.int .i64 p.1) ++ [.int .i64 i] = (D.later ++ [(i, Disk.pad s)]).map fun p => .int .i64 p.1 := by simp [Rk.tick]
    have e5 : ((Rk.tick D).later.map fun p => Value.string p.2) ++ [.string (Disk.pad s)] = (D.later ++ [(i, Disk.pad s)]).map fun p => .string p.2 := by simp [Rk.tick]
    rw [e4, e5] at hs
    have h5 := rdisk_close (sb := sb) (sc := sc) (safe := D.safe) (later := D.later ++ [(i, Disk.pad s)]) (ops := (Rk.tick D).ops) (arm := (Rk.tick D).arm) hk2 rfl (by simp [Rk.tick]) hs.drop.drop
    rw [List.set_set] at h5
    exact h5

theorem rWrite_spec {i : Int} {s : ByteArray} {K : VK} (h : St W w L) (hk : L[k]? = some (rdisk d D)) (hok : D.Ok)
    (hK : ∀ w', St W w' (L.set k (rdisk d (Rk.write D i s).1)) → K (.int .i64 (Rk.write D i s).2) w') : bondstoreref04_Disk_Write (some ⟨d, 0, none⟩) i s K w := by
  obtain ⟨sb, sc, ab, ac, tb, tc, hs⟩ := rdisk_open h hk
  unfold bondstoreref04_Disk_Write
  refine br_dec (fun h1 => ?_) (fun h1 => ?_)
  · refine rWrite_j1_spec h hk hok ?_ hK
    symm; rw [decide_eq_true_eq]; exact .inl fun hh => by have := hh.1; omega
  · simp only [nn_some, add_mk, Nat.zero_add, Nat.add_zero, Nat.reduceAdd, Nat.reduceMul, Option.isNone_some, Option.isNone_none, br_true, br_false, Bool.not_true, Bool.not_false, xI_eq, xB_eq, xS_eq, xP_eq, xL_eq, x0_eq, x2_eq, x3_eq, chk_eq, true_and, and_true, List.set_cons_zero, List.set_cons_succ, List.eraseIdx_cons_zero, List.eraseIdx_cons_succ]
    refine ld_pt (k := 0) hs rfl rfl ?_
    simp only [nn_some, add_mk, Nat.zero_add, Nat.add_zero, Nat.reduceAdd, Nat.reduceMul, Option.isNone_some, Option.isNone_none, br_true, br_false, Bool.not_true, Bool.not_false, xI_eq, xB_eq, xS_eq, xP_eq, xL_eq, x0_eq, x2_eq, x3_eq, chk_eq, true_and, and_true, List.set_cons_zero, List.set_cons_succ, List.eraseIdx_cons_zero, List.eraseIdx_cons_succ]
    refine br_dec (fun h2 => ?_) (fun h2 => ?_)
    · refine rWrite_j1_spec h hk hok ?_ hK
      symm; rw [decide_eq_true_eq]; exact .inl fun hh => by have := hh.2; omega
    · refine rWrite_j1_spec h hk hok ?_ hK
      have hi : D.is i := ⟨by omega, by omega⟩
      rw [decide_eq_decide]
      constructor
      · intro hh; exact .inr (by omega)
      · rintro (hh | hh)
        · exact absurd hi hh
        · omega

theorem rCrash_spec {mask torn cut : Int} {K : VK} (h : St W w L) (hk : L[k]? = some (rdisk d D)) (hok : D.Ok) (hm : (Lit.int .u64 mask).wf = true) (hK : ∀ w', St W w' (L.set k (rdisk d (Rk.crash D mask torn cut))) → K (.tuple ⟨[]⟩) w') :
    bondstoreref04_Disk_Crash (some ⟨d, 0, none⟩) mask torn cut K w := by
  have hl := hok.less
  have hc := cut_in cut
  obtain ⟨sb, sc, ab, ac, tb, tc, hs⟩ := rdisk_open h hk
  unfold bondstoreref04_Disk_Crash
  unfold Rk.crash at hK
  generalize min2 (max2 cut 0) 128 = c at *
  simp only [nn_some, add_mk, Nat.zero_add, Nat.add_zero, Nat.reduceAdd, Nat.reduceMul, Option.isNone_some, Option.isNone_none, br_true, br_false, Bool.not_true, Bool.not_false, xI_eq, xB_eq, xS_eq, xP_eq, xL_eq, x0_eq, x2_eq, x3_eq, chk_eq, true_and, and_true, List.set_cons_zero, List.set_cons_succ, List.eraseIdx_cons_zero, List.eraseIdx_cons_succ]
  refine ld_pt (k := 0) hs rfl rfl ?_
  simp only [nn_some, add_mk, Nat.zero_add, Nat.add_zero, Nat.reduceAdd, Nat.reduceMul, Option.isNone_some, Option.isNone_none, br_true, br_false, Bool.not_true, Bool.not_false, xI_eq, xB_eq, xS_eq, xP_eq, xL_eq, x0_eq, x2_eq, x3_eq, chk_eq, true_and, and_true, List.set_cons_zero, List.set_cons_succ, List.eraseIdx_cons_zero, List.eraseIdx_cons_succ]
  refine ⟨fun us w' => ∃ j : Nat, us = [.int .i64 c, .slice ab D.later.length ac, .int .i64 D.later.length, .int .i64 j] ∧ j ≤ D.later.length ∧
      St W w' (pt d (rdiskCells sb ab tb D.safe.length sc D.later.length ac tc D.ops D.arm) :: own sb D.safe.length sc 1 ((crashed mask torn c D.safe D.later j).map .string) :: own ab D.later.length ac 1 (D.later.map fun p => .int .i64 p.1) :: own tb D.later.length tc 1 (D.later.map fun p => .string p.2) :: L.eraseIdx k),
    fun us _ => match us with | [_, _, _, .int _ j] => D.later.length - j.toNat | _ => 0, ⟨0, rfl, Nat.zero_le _, hs⟩, ?_⟩
  rintro n4 sb2 sn2 sc2 n5 n6 w2 ⟨j, he, hj, hs⟩
  cases he
  have h128 := crashed_mem (mask := mask) (torn := torn) hc hok.safe hok.later j
  refine br_dec (fun h0 => ?_) (fun h0 => ?_)
  · have hlt : j < D.later.length := by omega
    obtain ⟨p, hp⟩ : ∃ p, D.later[j]? = some p := ⟨D.later[j], by simp [hlt]⟩
    have hp1 : (D.later.map fun p => Value.int .i64 p.1)[(j : Int).toNat * 1]? = some (.int .i64 p.1) := by rw [Int.toNat_natCast, Nat.mul_one, List.getElem?_map, hp]; rfl
    have hp2 : (D.later.map fun p => Value.string p.2)[(j : Int).toNat * 1]? = some (.string p.2) := by rw [Int.toNat_natCast, Nat.mul_one, List.getElem?_map, hp]; rfl
    obtain ⟨hps, hpa, hpb⟩ := hok.later p (List.mem_of_getElem? hp)
    have hplt : p.1.toNat < (crashed mask torn c D.safe D.later j).length := by rw [crashed_length]; omega
    have e5 : IntKind.i64.wrap ((j : Int) + 1) = ((j + 1 : Nat) : Int) := by rw [wrap_id (by omega)]; omega
    have hstep : crashed mask torn c D.safe D.later (j + 1) = Disk.crashAt mask torn c (crashed mask torn c D.safe D.later j) j p := by
      simp only [crashed, hp]
    refine ixs_own (k := 2) hs rfl (by omega) fun r hr => ?_
    subst hr
    refine ld_own (k := 2) hs rfl hp1 ?_
    simp only [nn_some, add_mk, Nat.zero_add, Nat.add_zero, Nat.reduceAdd, Nat.reduceMul, Option.isNone_some, Option.isNone_none, br_true, br_false, Bool.not_true, Bool.not_false, xI_eq, xB_eq, xS_eq, xP_eq, xL_eq, x0_eq, x2_eq, x3_eq, chk_eq, true_and, and_true, List.set_cons_zero, List.set_cons_succ, List.eraseIdx_cons_zero, List.eraseIdx_cons_succ]
    rw [e5]
    have fin : ∀ w', St W w' (pt d (rdiskCells sb (some ⟨r, 0, none⟩) tb D.safe.length sc D.later.length ac tc D.ops D.arm) :: own sb D.safe.length sc 1 ((crashed mask torn c D.safe D.later (j + 1)).map .string) :: own (some ⟨r, 0, none⟩) D.later.length ac 1 (D.later.map fun p => .int .i64 p.1) :: own tb D.later.length tc 1 (D.later.map fun p => .string p.2) :: L.eraseIdx k) →
        (∃ j' : Nat, [Value.int .i64 c, .slice (some ⟨r, 0, none⟩) D.later.length ac, .int .i64 D.later.length, .int .i64 ((j + 1 : Nat) : Int)] = [.int .i64 c, .slice (some ⟨r, 0, none⟩) D.later.length ac, .int .i64 D.later.length, .int .i64 j'] ∧ j' ≤ D.later.length ∧
      St W w' (pt d (rdiskCells sb (some ⟨r, 0, none⟩) tb D.safe.length sc D.later.length ac tc D.ops D.arm) :: own sb D.safe.length sc 1 ((crashed mask torn c D.safe D.later j').map .string) :: own (some ⟨r, 0, none⟩) D.later.length ac 1 (D.later.map fun p => .int .i64 p.1) :: own tb D.later.length tc 1 (D.later.map fun p => .string p.2) :: L.eraseIdx k)) := fun w' hs => ⟨j + 1, rfl, by omega, hs⟩
    have eu : IntKind.u64.wrap (min2 (j : Int) 63) = min2 (j : Int) 63 := u64_wrap_id (by unfold min2; split <;> omega)
    refine br_eq (fun ht => ?_) (fun ht => ?_)
    · refine tick_of hs fun w hs => ?_
      refine ld_pt (k := 0) hs rfl rfl ?_
      simp only [nn_some, add_mk, Nat.zero_add, Nat.add_zero, Nat.reduceAdd, Nat.reduceMul, Option.isNone_some, Option.isNone_none, br_true, br_false, Bool.not_true, Bool.not_false, xI_eq, xB_eq, xS_eq, xP_eq, xL_eq, x0_eq, x2_eq, x3_eq, chk_eq, true_and, and_true, List.set_cons_zero, List.set_cons_succ, List.eraseIdx_cons_zero, List.eraseIdx_cons_succ]
      refine ld_pt (k := 0) hs rfl rfl ?_
      simp only [nn_some, add_mk, Nat.zero_add, Nat.add_zero, Nat.reduceAdd, Nat.reduceMul, Option.isNone_some, Option.isNone_none, br_true, br_false, Bool.not_true, Bool.not_false, xI_eq, xB_eq, xS_eq, xP_eq, xL_eq, x0_eq, x2_eq, x3_eq, chk_eq, true_and, and_true, List.set_cons_zero, List.set_cons_succ, List.eraseIdx_cons_zero, List.eraseIdx_cons_succ]
      refine ixs_own (k := 3) hs rfl (by omega) fun r2 hr => ?_
      subst hr
      refine ld_own (k := 3) hs rfl hp2 ?_
      unfold slStr
      simp only [nn_some, add_mk, Nat.zero_add, Nat.add_zero, Nat.reduceAdd, Nat.reduceMul, Option.isNone_some, Option.isNone_none, br_true, br_false, Bool.not_true, Bool.not_false, xI_eq, xB_eq, xS_eq, xP_eq, xL_eq, x0_eq, x2_eq, x3_eq, chk_eq, true_and, and_true, List.set_cons_zero, List.set_cons_succ, List.eraseIdx_cons_zero, List.eraseIdx_cons_succ]
      refine ⟨⟨hc.1, by omega⟩, ?_⟩
      refine ld_pt (k := 0) hs rfl rfl ?_
      simp only [nn_some, add_mk, Nat.zero_add, Nat.add_zero, Nat.reduceAdd, Nat.reduceMul, Option.isNone_some, Option.isNone_none, br_true, br_false, Bool.not_true, Bool.not_false, xI_eq, xB_eq, xS_eq, xP_eq, xL_eq, x0_eq, x2_eq, x3_eq, chk_eq, true_and, and_true, List.set_cons_zero, List.set_cons_succ, List.eraseIdx_cons_zero, List.eraseIdx_cons_succ]
      refine ixs_own (k := 1) hs rfl ⟨hpa, hpb⟩ fun r' hr' => ?_
      subst hr'
      refine ld_own (k := 1) hs rfl (v := .string ((crashed mask torn c D.safe D.later j)[p.1.toNat])) (by rw [Nat.mul_one, List.getElem?_map, List.getElem?_eq_getElem hplt]; rfl) ?_
      simp only [nn_some, add_mk, Nat.zero_add, Nat.add_zero, Nat.reduceAdd, Nat.reduceMul, Option.isNone_some, Option.isNone_none, br_true, br_false, Bool.not_true, Bool.not_false, xI_eq, xB_eq, xS_eq, xP_eq, xL_eq, x0_eq, x2_eq, x3_eq, chk_eq, true_and, and_true, List.set_cons_zero, List.set_cons_succ, List.eraseIdx_cons_zero, List.eraseIdx_cons_succ]
      have h1 := h128 _ (List.getElem_mem hplt)
      refine ⟨⟨hc.1, by rw [h1]; exact hc.2⟩, ⟨by rw [strEx, strEx]; omega, ?_⟩⟩
      refine ixs_own (k := 1) hs rfl ⟨hpa, hpb⟩ fun r'' hr'' => ?_
      cases hr''
      refine st_own (k := 1) hs rfl (by rw [List.length_map, Nat.mul_one]; exact hplt) rfl fun w hs => ?_
      simp only [nn_some, add_mk, Nat.zero_add, Nat.add_zero, Nat.reduceAdd, Nat.reduceMul, Option.isNone_some, Option.isNone_none, br_true, br_false, Bool.not_true, Bool.not_false, xI_eq, xB_eq, xS_eq, xP_eq, xL_eq, x0_eq, x2_eq, x3_eq, chk_eq, true_and, and_true, List.set_cons_zero, List.set_cons_succ, List.eraseIdx_cons_zero, List.eraseIdx_cons_succ] at hs
      refine ⟨fin w ?_, by omega⟩
      rw [hstep]
      have e6 : (Disk.crashAt mask torn c (crashed mask torn c D.safe D.later j) j p).map Value.string = ((crashed mask torn c D.safe D.later j).map Value.string).set (p.1.toNat * 1) (.string (p.2.extract 0 c.toNat ++ ((crashed mask torn c D.safe D.later j)[p.1.toNat]).extract c.toNat ((crashed mask torn c D.safe D.later j)[p.1.toNat]).size)) := by
        unfold Disk.crashAt
        rw [if_pos ht, List.map_set, Nat.mul_one, List.getD_eq_getElem?_getD, List.getElem?_eq_getElem hplt]; rfl
      rw [e6]; exact hs
    · rw [eu, bit_tmod hm]
      refine ⟨by unfold min2; split <;> omega, ⟨by decide, ?_⟩⟩
      refine br_of (fun hb => ?_) (fun hb => ?_)
      · refine tick_of hs fun w hs => ?_
        refine ld_pt (k := 0) hs rfl rfl ?_
        simp only [nn_some, add_mk, Nat.zero_add, Nat.add_zero, Nat.reduceAdd, Nat.reduceMul, Option.isNone_some, Option.isNone_none, br_true, br_false, Bool.not_true, Bool.not_false, xI_eq, xB_eq, xS_eq, xP_eq, xL_eq, x0_eq, x2_eq, x3_eq, chk_eq, true_and, and_true, List.set_cons_zero, List.set_cons_succ, List.eraseIdx_cons_zero, List.eraseIdx_cons_succ]
        refine ld_pt (k := 0) hs rfl rfl ?_
        simp only [nn_some, add_mk, Nat.zero_add, Nat.add_zero, Nat.reduceAdd, Nat.reduceMul, Option.isNone_some, Option.isNone_none, br_true, br_false, Bool.not_true, Bool.not_false, xI_eq, xB_eq, xS_eq, xP_eq, xL_eq, x0_eq, x2_eq, x3_eq, chk_eq, true_and, and_true, List.set_cons_zero, List.set_cons_succ, List.eraseIdx_cons_zero, List.eraseIdx_cons_succ]
        refine ixs_own (k := 3) hs rfl (by omega) fun r2 hr => ?_
        subst hr
        refine ld_own (k := 3) hs rfl hp2 ?_
        simp only [nn_some, add_mk, Nat.zero_add, Nat.add_zero, Nat.reduceAdd, Nat.reduceMul, Option.isNone_some, Option.isNone_none, br_true, br_false, Bool.not_true, Bool.not_false, xI_eq, xB_eq, xS_eq, xP_eq, xL_eq, x0_eq, x2_eq, x3_eq, chk_eq, true_and, and_true, List.set_cons_zero, List.set_cons_succ, List.eraseIdx_cons_zero, List.eraseIdx_cons_succ]
        refine ixs_own (k := 1) hs rfl ⟨hpa, hpb⟩ fun r' hr' => ?_
        subst hr'
        refine st_own (k := 1) hs rfl (by rw [List.length_map, Nat.mul_one]; exact hplt) rfl fun w hs => ?_
        simp only [nn_some, add_mk, Nat.zero_add, Nat.add_zero, Nat.reduceAdd, Nat.reduceMul, Option.isNone_some, Option.isNone_none, br_true, br_false, Bool.not_true, Bool.not_false, xI_eq, xB_eq, xS_eq, xP_eq, xL_eq, x0_eq, x2_eq, x3_eq, chk_eq, true_and, and_true, List.set_cons_zero, List.set_cons_succ, List.eraseIdx_cons_zero, List.eraseIdx_cons_succ] at hs
        refine ⟨fin w ?_, by omega⟩
        rw [hstep]
        have e6 : (Disk.crashAt mask torn c (crashed mask torn c D.safe D.later j) j p).map Value.string = ((crashed mask torn c D.safe D.later j).map Value.string).set (p.1.toNat * 1) (.string p.2) := by
          unfold Disk.crashAt
          rw [if_neg ht, if_pos hb, List.map_set, Nat.mul_one]
        rw [e6]; exact hs
      · refine ⟨fin w2 ?_, by omega⟩
        rw [hstep]
        have e6 : Disk.crashAt mask torn c (crashed mask torn c D.safe D.later j) j p = crashed mask torn c D.safe D.later j := by
          unfold Disk.crashAt
          rw [if_neg ht, if_neg (by rw [hb]; exact Bool.false_ne_true)]
        rw [e6]; exact hs
  · have hj2 : j = D.later.length := by omega
    subst hj2
    refine st_pt (k := 0) hs rfl (Nat.le_of_ble_eq_true rfl) rfl fun w hs => ?_
    simp only [nn_some, add_mk, Nat.zero_add, Nat.add_zero, Nat.reduceAdd, Nat.reduceMul, Option.isNone_some, Option.isNone_none, br_true, br_false, Bool.not_true, Bool.not_false, xI_eq, xB_eq, xS_eq, xP_eq, xL_eq, x0_eq, x2_eq, x3_eq, chk_eq, true_and, and_true, List.set_cons_zero, List.set_cons_succ, List.eraseIdx_cons_zero, List.eraseIdx_cons_succ] at hs
    refine st_pt (k := 0) hs rfl (Nat.le_of_ble_eq_true rfl) rfl fun w hs => ?_
    simp only [nn_some, add_mk, Nat.zero_add, Nat.add_zero, Nat.reduceAdd, Nat.reduceMul, Option.isNone_some, Option.isNone_none, br_true, br_false, Bool.not_true, Bool.not_false, xI_eq, xB_eq, xS_eq, xP_eq, xL_eq, x0_eq, x2_eq, x3_eq, chk_eq, true_and, and_true, List.set_cons_zero, List.set_cons_succ, List.eraseIdx_cons_zero, List.eraseIdx_cons_succ] at hs
    refine hK w ?_
    have hs2 := (((hs.perm (perm22 _ _ _ _ _)).drop.drop).push (A := own none 0 0 1 (([] : List (Int × ByteArray)).map fun p => .int .i64 p.1)) (own_nil 1)).push (A := own none 0 0 1 (([] : List (Int × ByteArray)).map fun p => .string p.2)) (own_nil 1)
    have hs3 := (hs2.perm (perm22 _ _ _ _ _)).perm ((List.Perm.cons _ (List.Perm.cons _ (List.Perm.swap _ _ _))))
    exact rdisk_close (sb := sb) (sc := sc) (safe := crashed mask torn c D.safe D.later D.later.length) (later := []) (ops := D.ops) (arm := D.arm) hk (crashed_length _ _ _ _ _ _).symm rfl hs3

theorem rSync_spec {K : VK} (h : St W w L) (hk : L[k]? = some (rdisk d D)) (hok : D.Ok) (hK : ∀ w', St W w' (L.set k (rdisk d (Rk.sync D).1)) → K (.int .i64 (Rk.sync D).2) w') : bondstoreref04_Disk_Sync (some ⟨d, 0, none⟩) K w := by
  unfold bondstoreref04_Disk_Sync
  refine rfails_spec h hk fun w h => ?_
  simp only [nn_some, add_mk, Nat.zero_add, Nat.add_zero, Nat.reduceAdd, Nat.reduceMul, Option.isNone_some, Option.isNone_none, br_true, br_false, Bool.not_true, Bool.not_false, xI_eq, xB_eq, xS_eq, xP_eq, xL_eq, x0_eq, x2_eq, x3_eq, chk_eq, true_and, and_true, List.set_cons_zero, List.set_cons_succ, List.eraseIdx_cons_zero, List.eraseIdx_cons_succ]
  refine br_of (fun hf => ?_) (fun hf => ?_)
  · unfold Rk.sync at hK
    rw [if_pos hf] at hK
    exact hK w h
  · refine rCrash_spec h (set_get hk) ⟨hok.safe, hok.later, hok.few, hok.less⟩ (by decide) fun w h => ?_
    simp only [nn_some, add_mk, Nat.zero_add, Nat.add_zero, Nat.reduceAdd, Nat.reduceMul, Option.isNone_some, Option.isNone_none, br_true, br_false, Bool.not_true, Bool.not_false, xI_eq, xB_eq, xS_eq, xP_eq, xL_eq, x0_eq, x2_eq, x3_eq, chk_eq, true_and, and_true, List.set_cons_zero, List.set_cons_succ, List.eraseIdx_cons_zero, List.eraseIdx_cons_succ]
    unfold Rk.sync at hK
    rw [if_neg (by rw [hf]; exact Bool.false_ne_true)] at hK
    refine hK w ?_
    rw [List.set_set] at h
    have e : Rk.crash (Rk.tick D) 18446744073709551615 (-1) 0 = { Rk.tick D with safe := D.later.foldl Disk.put D.safe, later := [] } := by
      unfold Rk.crash
      rw [crashed_all _ _ _ _ (Nat.le_refl _), List.take_length]; rfl
    rw [e] at h
    exact h
end
end Go.Sep
