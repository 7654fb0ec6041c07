/- The law PlatterLasts. -/
import Derived.Test.YtidhimamegfdaaaLa3
namespace Go.Sep
open Go.Den Go.RowKit Go.Prog Go.Plat
set_option linter.unusedSimpArgs false
set_option linter.unusedVariables false

theorem zeroCells_one (v : Value) (n : Nat) : (Builtin.zeroCells ⟨[v]⟩ n).toList = List.replicate n v := by
  apply List.ext_getElem?
  intro i
  simp only [Builtin.zeroCells, Array.toList_map, Array.toList_range, List.getElem?_map, List.size_toArray, List.length_singleton, Nat.mul_one, Nat.mod_one, List.getElem?_replicate]
  by_cases h : i < n
  · rw [List.getElem?_range h, if_pos h]; rfl
  · rw [if_neg h, List.getElem?_eq_none (by simpa using h)]; rfl

/-- Sectors that weren't written stay. -/
theorem crashed_other (mask torn c : Int) (safe : List ByteArray) (later : List (Int × ByteArray)) (i : Nat) (h : ∀ p ∈ later, p.1.toNat ≠ i) : ∀ j, (crashed mask torn c safe later j)[i]? = safe[i]?
  | 0 => rfl
  | j + 1 => by
    simp only [crashed]
    cases hl : later[j]? with
    | none => exact crashed_other mask torn c safe later i h j
    | some p =>
      have hp := h p (List.mem_of_getElem? hl)
      have ih := crashed_other mask torn c safe later i h j
      simp only []
      unfold Disk.crashAt
      split
      · rw [List.getElem?_set_ne hp]; exact ih
      · split
        · rw [List.getElem?_set_ne hp]; exact ih
        · exact ih

/-- Behind a sync: sectors as they were, and writes only where it is told. -/
structure Kept (S : List ByteArray) (bs : List Bool) (j : Nat) (D : Disk) : Prop where
  ok : D.Ok
  safe : D.safe = S
  arm : D.arm = 0
  few : D.later.length ≤ j
  told : ∀ p ∈ D.later, bs[p.1.toNat]? = some true

theorem Kept.no {S : List ByteArray} {bs : List Bool} {j : Nat} {D : Disk} (h : Kept S bs j D) {i : Int} {s : ByteArray} (hw : (D.write i s).2 ≠ 0) : Kept S bs (j + 1) (D.write i s).1 := by
  rw [Dk.write0 h.arm] at hw ⊢
  split at hw
  · rename_i hg
    rw [if_pos hg]
    exact ⟨h.ok, h.safe, h.arm, Nat.le_succ_of_le h.few, h.told⟩
  · exact absurd rfl hw

theorem Kept.yes {S : List ByteArray} {bs : List Bool} {j : Nat} {D : Disk} (h : Kept S bs j D) (hj : j < 1000) (hb : bs.length = S.length) {i : Int} {s : ByteArray} (hw : (D.write i s).2 = 0) : D.is i ∧ Kept S (bs.set i.toNat true) (j + 1) (D.write i s).1 := by
  have hok := write_ok h.ok i s (by have := h.few; omega)
  rw [Dk.write0 h.arm] at hw hok ⊢
  by_cases hg : ¬ D.is i ∨ 128 < s.size
  · rw [if_pos hg] at hw; simp at hw
  · rw [if_neg hg] at hok ⊢
    have hi : D.is i := by
      by_cases hh : D.is i
      · exact hh
      · exact absurd (.inl hh) hg
    have hil : i.toNat < bs.length := by rw [hb, ← h.safe]; have := hi.1; have := hi.2; omega
    refine ⟨hi, hok, h.safe, Dk.tick0 h.arm, ?_, ?_⟩
    · show (D.later ++ _).length ≤ _
      have := h.few; simp; omega
    · intro p hp
      have hp : p ∈ D.later ++ [(i, Disk.pad s)] := hp
      by_cases hpi : p.1.toNat = i.toNat
      · rw [hpi, List.getElem?_set_self hil]
      · rw [List.getElem?_set_ne (by omega)]
        rcases List.mem_append.1 hp with hp | hp
        · exact h.told p hp
        · simp at hp; subst hp; exact absurd rfl hpi

section
variable {W w : World} {L : List HP}

theorem Lasts_spec {n mask torn cut : Int} {sb sb' : Option Addr} {sn sc sn' sc' : Nat} {cs cs' : List PCall} {K : VK} (h : St W w L) (hr : Ro W sb sn 5 (cs.flatMap callCells)) (hl : cs.length = sn) (hmx : sn ≤ maxLen) (hok : ∀ c ∈ cs, c.Ok)
    (hr' : Ro W sb' sn' 5 (cs'.flatMap callCells)) (hl' : cs'.length = sn') (hmx' : sn' ≤ maxLen) (hok' : ∀ c ∈ cs', c.Ok)
    (hK : ∀ w', St W w' L → K (.bool true) w') : bondstorelaw04_PlatterLasts n sb sn sc sb' sn' sc' mask torn cut K w := by
  unfold bondstorelaw04_PlatterLasts
  refine alive_spec h fun w h => ?_
  simp only [nn_some, add_mk, Nat.zero_add, Nat.add_zero, Nat.reduceAdd, Nat.reduceMul, Option.isNone_some, Option.isNone_none, br_true, br_false, Bool.not_true, Bool.not_false, xI_eq, xB_eq, xS_eq, xP_eq, xL_eq, x0_eq, x2_eq, x3_eq, chk_eq, true_and, and_true, List.set_cons_zero, List.set_cons_succ, List.eraseIdx_cons_zero, List.eraseIdx_cons_succ]
  have go : ∀ b w, St W w L → (b = false → 0 ≤ n ∧ n ≤ 40 ∧ sn ≤ 80 ∧ sn' ≤ 80) → bondstorelaw04_PlatterLasts.j1 K n sb sn sc sb' sn' sc' mask torn cut b w := fun b w h hb => by
    unfold bondstorelaw04_PlatterLasts.j1
    refine br_of (fun _ => hK w h) (fun hb2 => ?_)
    obtain ⟨h0, h40, hsn, hsn'⟩ := hb hb2
    refine New_spec h fun d w h => ?_
    simp only [nn_some, add_mk, Nat.zero_add, Nat.add_zero, Nat.reduceAdd, Nat.reduceMul, Option.isNone_some, Option.isNone_none, br_true, br_false, Bool.not_true, Bool.not_false, xI_eq, xB_eq, xS_eq, xP_eq, xL_eq, x0_eq, x2_eq, x3_eq, chk_eq, true_and, and_true, List.set_cons_zero, List.set_cons_succ, List.eraseIdx_cons_zero, List.eraseIdx_cons_succ]
    refine rNew_spec h (by omega) fun m w h => ?_
    simp only [nn_some, add_mk, Nat.zero_add, Nat.add_zero, Nat.reduceAdd, Nat.reduceMul, Option.isNone_some, Option.isNone_none, br_true, br_false, Bool.not_true, Bool.not_false, xI_eq, xB_eq, xS_eq, xP_eq, xL_eq, x0_eq, x2_eq, x3_eq, chk_eq, true_and, and_true, List.set_cons_zero, List.set_cons_succ, List.eraseIdx_cons_zero, List.eraseIdx_cons_succ]
    refine ⟨fun us w' => ∃ (j : Nat), us = [.bool false, .pointer (some ⟨d, 0, none⟩), .pointer (some ⟨m, 0, none⟩), .slice sb sn sc, .int .i64 sn, .int .i64 j] ∧ j ≤ sn ∧ ∃ D M, Sim j D M ∧ D.safe.length = n.toNat ∧ St W w' (rdisk m M :: disk d D :: L),
      fun us _ => match us with | [_, _, _, _, _, .int _ j] => sn - j.toNat | _ => 0, ⟨0, rfl, Nat.zero_le _, _, _, ?_, new_length h0 h40, h⟩, ?_⟩
    · exact ⟨new_ok n, rfl, rfl, rfl, .inl ⟨rfl, Int.le_refl _, Int.le_refl _⟩, Nat.zero_le _⟩
    rintro b3 p3 p4 sb2 sn2 sc2 n5 n6 w2 ⟨j, he, hj, D, M, hsim, hlen, hs⟩
    cases he
    refine br_dec (fun hlt' => ?_) (fun _ => ?_)
    · have hlt : j < cs.length := by omega
      have hg : cs[j]? = some cs[j] := by simp [hlt]
      refine elem_ro (ys := callCells cs[j]) hs hr ⟨by omega, hlt'⟩ rfl rfl (callCells_one _) (fun i v hi => by rw [Int.toNat_natCast]; exact calls_get hg i v hi) fun r w hs => ?_
      refine ldN_pt (k := 0) (xs := callCells cs[j]) hs rfl rfl (fun i v hi => by rw [Nat.zero_add]; exact hi) ?_
      refine does_spec hs.drop (hok _ (List.getElem_mem hlt)) hsim (by omega) fun w D' M' hsim hlen' hs => ?_
      simp only [nn_some, add_mk, Nat.zero_add, Nat.add_zero, Nat.reduceAdd, Nat.reduceMul, Option.isNone_some, Option.isNone_none, br_true, br_false, Bool.not_true, Bool.not_false, xI_eq, xB_eq, xS_eq, xP_eq, xL_eq, x0_eq, x2_eq, x3_eq, chk_eq, true_and, and_true, List.set_cons_zero, List.set_cons_succ, List.eraseIdx_cons_zero, List.eraseIdx_cons_succ]
      have e5 : IntKind.i64.wrap ((j : Int) + 1) = ((j + 1 : Nat) : Int) := by rw [wrap_id (by omega)]; omega
      rw [e5]
      exact ⟨⟨j + 1, rfl, by omega, D', M', hsim, hlen'.trans hlen, hs⟩, by omega⟩
    have hs := hs.drop
    have hDl := hsim.few
    refine Disk_Arm_spec (k := 0) hs rfl fun w hs => ?_
    simp only [nn_some, add_mk, Nat.zero_add, Nat.add_zero, Nat.reduceAdd, Nat.reduceMul, Option.isNone_some, Option.isNone_none, br_true, br_false, Bool.not_true, Bool.not_false, xI_eq, xB_eq, xS_eq, xP_eq, xL_eq, x0_eq, x2_eq, x3_eq, chk_eq, true_and, and_true, List.set_cons_zero, List.set_cons_succ, List.eraseIdx_cons_zero, List.eraseIdx_cons_succ] at hs ⊢
    have hok1 := armed_ok hsim.ok 0
    have harm1 : (D.armed 0).arm = 0 := rfl
    refine Disk_Sync_spec (k := 0) hs rfl hok1 fun w hs => ?_
    simp only [nn_some, add_mk, Nat.zero_add, Nat.add_zero, Nat.reduceAdd, Nat.reduceMul, Option.isNone_some, Option.isNone_none, br_true, br_false, Bool.not_true, Bool.not_false, xI_eq, xB_eq, xS_eq, xP_eq, xL_eq, x0_eq, x2_eq, x3_eq, chk_eq, true_and, and_true, List.set_cons_zero, List.set_cons_succ, List.eraseIdx_cons_zero, List.eraseIdx_cons_succ] at hs ⊢
    have hok2 := sync_ok hok1
    have e0 : (D.armed 0).sync.2 = 0 := by rw [Dk.sync0 harm1]
    have hlater : (D.armed 0).sync.1.later = [] := by rw [Dk.sync0 harm1]
    have harm2 := Dk.sync0_arm harm1
    have hlen2 : (D.armed 0).sync.1.safe.length = n.toNat := by rw [Dk.sync_len.1]; exact hlen
    rw [e0]
    generalize (D.armed 0).sync.1 = D1 at *
    refine br_ne (fun hh => absurd rfl hh) (fun _ => ?_)
    refine mkSl_own hs (by omega) fun rw1 w hs => ?_
    rw [zeroCells_one] at hs
    refine ⟨fun us w' => ∃ (i : Nat) (xs : List Value), us = [.bool false, .pointer (some ⟨d, 0, none⟩), .slice (some ⟨rw1, 0, none⟩) n.toNat n.toNat, .int .i64 (n.toNat : Int), .int .i64 i] ∧ i ≤ n.toNat ∧ xs.length = n.toNat ∧ (∀ k, k < i → xs[k]? = some (.string (D1.read (k : Int)).1)) ∧
        St W w' (own (some ⟨rw1, 0, none⟩) n.toNat n.toNat 1 xs :: disk d D1 :: L),
      fun us _ => match us with | [_, _, _, _, .int _ i] => n.toNat - i.toNat | _ => 0, ⟨0, _, rfl, Nat.zero_le _, by simp, fun k hk => by omega, hs⟩, ?_⟩
    rintro b5 p5 sb5 sn5 sc5 n8 n9 w5 ⟨i, xs, he, hi, hxl, hx, hs⟩
    cases he
    refine br_dec (fun hlt => ?_) (fun hge => ?_)
    · refine Disk_Read_spec (k := 1) hs rfl hok2 ?_
      simp only [nn_some, add_mk, Nat.zero_add, Nat.add_zero, Nat.reduceAdd, Nat.reduceMul, Option.isNone_some, Option.isNone_none, br_true, br_false, Bool.not_true, Bool.not_false, xI_eq, xB_eq, xS_eq, xP_eq, xL_eq, x0_eq, x2_eq, x3_eq, chk_eq, true_and, and_true, List.set_cons_zero, List.set_cons_succ, List.eraseIdx_cons_zero, List.eraseIdx_cons_succ]
      refine ixs_own (k := 0) hs rfl (by omega) fun r hr => ?_
      cases hr
      refine st_own (k := 0) hs rfl (by rw [hxl]; omega) rfl fun w hs => ?_
      simp only [nn_some, add_mk, Nat.zero_add, Nat.add_zero, Nat.reduceAdd, Nat.reduceMul, Option.isNone_some, Option.isNone_none, br_true, br_false, Bool.not_true, Bool.not_false, xI_eq, xB_eq, xS_eq, xP_eq, xL_eq, x0_eq, x2_eq, x3_eq, chk_eq, true_and, and_true, List.set_cons_zero, List.set_cons_succ, List.eraseIdx_cons_zero, List.eraseIdx_cons_succ] at hs
      have e5 : IntKind.i64.wrap ((i : Int) + 1) = ((i + 1 : Nat) : Int) := by rw [wrap_id (by omega)]; omega
      rw [e5]
      refine ⟨⟨i + 1, _, rfl, by omega, by rw [List.length_set]; exact hxl, fun k hk => ?_, hs⟩, by omega⟩
      rw [Int.toNat_natCast, Nat.mul_one]
      by_cases hki : k = i
      · subst hki; rw [List.getElem?_set_self (by omega)]
      · rw [List.getElem?_set_ne (by omega)]; exact hx k (by omega)
    have hin : i = n.toNat := by omega
    subst hin
    refine mkSl_own hs (by omega) fun rw2 w hs => ?_
    rw [zeroCells_one] at hs
    refine ⟨fun us w' => ∃ (j : Nat) (bs : List Bool) (D2 : Disk), us = [.bool false, .pointer (some ⟨d, 0, none⟩), .slice (some ⟨rw1, 0, none⟩) n.toNat n.toNat, .slice (some ⟨rw2, 0, none⟩) n.toNat n.toNat, .slice sb' sn' sc', .int .i64 sn', .int .i64 j] ∧ j ≤ sn' ∧ bs.length = n.toNat ∧ Kept D1.safe bs j D2 ∧
        St W w' (own (some ⟨rw2, 0, none⟩) n.toNat n.toNat 1 (bs.map .bool) :: own (some ⟨rw1, 0, none⟩) n.toNat n.toNat 1 xs :: disk d D2 :: L),
      fun us _ => match us with | [_, _, _, _, _, _, .int _ j] => sn' - j.toNat | _ => 0, ⟨0, List.replicate n.toNat false, D1, rfl, Nat.zero_le _, by simp, ⟨hok2, rfl, harm2, by rw [hlater]; exact Nat.zero_le _, by rw [hlater]; simp⟩, ?_⟩, ?_⟩
    · rw [List.map_replicate]; exact hs
    rintro b6 p6 sb7 sn7 sc7 sb8 sn8 sc8 sb9 sn9 sc9 n11 n12 w8 ⟨j, bs, D2, he, hj, hbl, hkept, hs⟩
    cases he
    have e5 : IntKind.i64.wrap ((j : Int) + 1) = ((j + 1 : Nat) : Int) := by rw [wrap_id (by omega)]; omega
    refine br_dec (fun hlt' => ?_) (fun hge => ?_)
    · have hlt : j < cs'.length := by omega
      have hg : cs'[j]? = some cs'[j] := by simp [hlt]
      refine elem_ro (ys := callCells cs'[j]) hs hr' ⟨by omega, hlt'⟩ rfl rfl (callCells_one _) (fun i v hi => by rw [Int.toNat_natCast]; exact calls_get hg i v hi) fun r w hs => ?_
      rw [e5]
      refine ld_pt (k := 0) hs rfl rfl ?_
      simp only [nn_some, add_mk, Nat.zero_add, Nat.add_zero, Nat.reduceAdd, Nat.reduceMul, Option.isNone_some, Option.isNone_none, br_true, br_false, Bool.not_true, Bool.not_false, xI_eq, xB_eq, xS_eq, xP_eq, xL_eq, x0_eq, x2_eq, x3_eq, chk_eq, true_and, and_true, List.set_cons_zero, List.set_cons_succ, List.eraseIdx_cons_zero, List.eraseIdx_cons_succ]
      refine br_eq (fun hk => ?_) (fun hk => ?_)
      · refine ld_pt (k := 0) hs rfl rfl ?_
        simp only [nn_some, add_mk, Nat.zero_add, Nat.add_zero, Nat.reduceAdd, Nat.reduceMul, Option.isNone_some, Option.isNone_none, br_true, br_false, Bool.not_true, Bool.not_false, xI_eq, xB_eq, xS_eq, xP_eq, xL_eq, x0_eq, x2_eq, x3_eq, chk_eq, true_and, and_true, List.set_cons_zero, List.set_cons_succ, List.eraseIdx_cons_zero, List.eraseIdx_cons_succ]
        refine ld_pt (k := 0) hs rfl rfl ?_
        simp only [nn_some, add_mk, Nat.zero_add, Nat.add_zero, Nat.reduceAdd, Nat.reduceMul, Option.isNone_some, Option.isNone_none, br_true, br_false, Bool.not_true, Bool.not_false, xI_eq, xB_eq, xS_eq, xP_eq, xL_eq, x0_eq, x2_eq, x3_eq, chk_eq, true_and, and_true, List.set_cons_zero, List.set_cons_succ, List.eraseIdx_cons_zero, List.eraseIdx_cons_succ]
        refine Disk_Write_spec (k := 3) hs rfl hkept.ok fun w hs => ?_
        simp only [nn_some, add_mk, Nat.zero_add, Nat.add_zero, Nat.reduceAdd, Nat.reduceMul, Option.isNone_some, Option.isNone_none, br_true, br_false, Bool.not_true, Bool.not_false, xI_eq, xB_eq, xS_eq, xP_eq, xL_eq, x0_eq, x2_eq, x3_eq, chk_eq, true_and, and_true, List.set_cons_zero, List.set_cons_succ, List.eraseIdx_cons_zero, List.eraseIdx_cons_succ] at hs ⊢
        refine br_eq (fun hw => ?_) (fun hw => ?_)
        · obtain ⟨his, hk2⟩ := hkept.yes (by omega) (by rw [hbl, hlen2]) hw
          have his1 : 0 ≤ cs'[j].n ∧ cs'[j].n < (n.toNat : Int) := ⟨his.1, by rw [← hlen2, ← hkept.safe]; exact his.2⟩
          refine ld_pt (k := 0) hs rfl rfl ?_
          simp only [nn_some, add_mk, Nat.zero_add, Nat.add_zero, Nat.reduceAdd, Nat.reduceMul, Option.isNone_some, Option.isNone_none, br_true, br_false, Bool.not_true, Bool.not_false, xI_eq, xB_eq, xS_eq, xP_eq, xL_eq, x0_eq, x2_eq, x3_eq, chk_eq, true_and, and_true, List.set_cons_zero, List.set_cons_succ, List.eraseIdx_cons_zero, List.eraseIdx_cons_succ]
          refine ixs_own (k := 1) hs rfl his1 fun r' hr' => ?_
          cases hr'
          refine st_own (k := 1) hs rfl (by rw [List.length_map, hbl]; omega) rfl fun w hs => ?_
          simp only [nn_some, add_mk, Nat.zero_add, Nat.add_zero, Nat.reduceAdd, Nat.reduceMul, Option.isNone_some, Option.isNone_none, br_true, br_false, Bool.not_true, Bool.not_false, xI_eq, xB_eq, xS_eq, xP_eq, xL_eq, x0_eq, x2_eq, x3_eq, chk_eq, true_and, and_true, List.set_cons_zero, List.set_cons_succ, List.eraseIdx_cons_zero, List.eraseIdx_cons_succ] at hs
          refine ⟨⟨j + 1, _, _, rfl, by omega, by rw [List.length_set]; exact hbl, hk2, ?_⟩, by omega⟩
          rw [List.map_set]
          rw [Nat.mul_one] at hs
          exact hs.drop
        · exact ⟨⟨j + 1, bs, _, rfl, by omega, hbl, hkept.no hw, hs.drop⟩, by omega⟩
      · exact ⟨⟨j + 1, bs, D2, rfl, by omega, hbl, ⟨hkept.ok, hkept.safe, hkept.arm, Nat.le_succ_of_le hkept.few, hkept.told⟩, hs.drop⟩, by omega⟩
    · refine Disk_Crash_spec (k := 2) hs rfl hkept.ok fun w hs => ?_
      simp only [nn_some, add_mk, Nat.zero_add, Nat.add_zero, Nat.reduceAdd, Nat.reduceMul, Option.isNone_some, Option.isNone_none, br_true, br_false, Bool.not_true, Bool.not_false, xI_eq, xB_eq, xS_eq, xP_eq, xL_eq, x0_eq, x2_eq, x3_eq, chk_eq, true_and, and_true, List.set_cons_zero, List.set_cons_succ, List.eraseIdx_cons_zero, List.eraseIdx_cons_succ] at hs ⊢
      have hok3 := crash_ok hkept.ok mask torn cut
      have hlater3 : (D2.crash mask torn cut).later = [] := by rw [crash_eq]
      have hsafe3 : ∀ i, (∀ p ∈ D2.later, p.1.toNat ≠ i) → (D2.crash mask torn cut).safe[i]? = D1.safe[i]? := fun i hi => by
        rw [crash_eq, ← hkept.safe]; exact crashed_other _ _ _ _ _ i hi _
      have hlen3 : (D2.crash mask torn cut).safe.length = n.toNat := by rw [crash_eq]; simp only [crashed_length]; rw [hkept.safe]; exact hlen2
      generalize D2.crash mask torn cut = D3 at *
      refine ⟨fun us w' => ∃ (i : Nat), us = [.bool false, .pointer (some ⟨d, 0, none⟩), .slice (some ⟨rw1, 0, none⟩) n.toNat n.toNat, .slice (some ⟨rw2, 0, none⟩) n.toNat n.toNat, .int .i64 (n.toNat : Int), .int .i64 i] ∧ i ≤ n.toNat ∧
          St W w' (own (some ⟨rw2, 0, none⟩) n.toNat n.toNat 1 (bs.map .bool) :: own (some ⟨rw1, 0, none⟩) n.toNat n.toNat 1 xs :: disk d D3 :: L),
        fun us _ => match us with | [_, _, _, _, _, .int _ i] => n.toNat - i.toNat | _ => 0, ⟨0, rfl, Nat.zero_le _, hs⟩, ?_⟩
      rintro b8 p7 sb10 sn10 sc10 sb11 sn11 sc11 n17 n18 w13 ⟨i, he, hi, hs⟩
      cases he
      refine br_dec (fun hlt => ?_) (fun hge => ?_)
      · have hin : i < n.toNat := by omega
        have e6 : IntKind.i64.wrap ((i : Int) + 1) = ((i + 1 : Nat) : Int) := by rw [wrap_id (by omega)]; omega
        refine Disk_Read_spec (k := 2) hs rfl hok3 ?_
        simp only [nn_some, add_mk, Nat.zero_add, Nat.add_zero, Nat.reduceAdd, Nat.reduceMul, Option.isNone_some, Option.isNone_none, br_true, br_false, Bool.not_true, Bool.not_false, xI_eq, xB_eq, xS_eq, xP_eq, xL_eq, x0_eq, x2_eq, x3_eq, chk_eq, true_and, and_true, List.set_cons_zero, List.set_cons_succ, List.eraseIdx_cons_zero, List.eraseIdx_cons_succ]
        refine ixs_own (k := 0) hs rfl (by omega) fun r hr => ?_
        cases hr
        have hbi : bs[i]? = some bs[i] := by simp [hbl, hin]
        refine ld_own (k := 0) hs rfl (v := .bool bs[i]) (by rw [Int.toNat_natCast, Nat.mul_one, List.getElem?_map, hbi]; rfl) ?_
        simp only [nn_some, add_mk, Nat.zero_add, Nat.add_zero, Nat.reduceAdd, Nat.reduceMul, Option.isNone_some, Option.isNone_none, br_true, br_false, Bool.not_true, Bool.not_false, xI_eq, xB_eq, xS_eq, xP_eq, xL_eq, x0_eq, x2_eq, x3_eq, chk_eq, true_and, and_true, List.set_cons_zero, List.set_cons_succ, List.eraseIdx_cons_zero, List.eraseIdx_cons_succ]
        rw [e6]
        refine br_of (fun hb => ?_) (fun hb => ?_)
        · refine ixs_own (k := 1) hs rfl (by omega) fun r hr => ?_
          cases hr
          refine ld_own (k := 1) hs rfl (v := .string (D1.read (i : Int)).1) (by rw [Int.toNat_natCast, Nat.mul_one]; exact hx i hin) ?_
          simp only [nn_some, add_mk, Nat.zero_add, Nat.add_zero, Nat.reduceAdd, Nat.reduceMul, Option.isNone_some, Option.isNone_none, br_true, br_false, Bool.not_true, Bool.not_false, xI_eq, xB_eq, xS_eq, xP_eq, xL_eq, x0_eq, x2_eq, x3_eq, chk_eq, true_and, and_true, List.set_cons_zero, List.set_cons_succ, List.eraseIdx_cons_zero, List.eraseIdx_cons_succ]
          have hnot : ∀ p ∈ D2.later, p.1.toNat ≠ i := fun p hp hpi => by
            have := hkept.told p hp
            rw [hpi, hbi] at this
            rw [Option.some.inj this] at hb
            exact absurd hb (by decide)
          have h3 := hsafe3 i hnot
          have r1 := read_safe hlater (i := i) (by omega)
          have r3 := read_safe hlater3 (i := i) (by omega)
          rw [List.getElem?_eq_getElem (by omega), List.getElem?_eq_getElem (by omega)] at h3
          rw [r1, r3, Option.some.inj h3, strEq_iff, decide_eq_true rfl]
          simp only [nn_some, add_mk, Nat.zero_add, Nat.add_zero, Nat.reduceAdd, Nat.reduceMul, Option.isNone_some, Option.isNone_none, br_true, br_false, Bool.not_true, Bool.not_false, xI_eq, xB_eq, xS_eq, xP_eq, xL_eq, x0_eq, x2_eq, x3_eq, chk_eq, true_and, and_true, List.set_cons_zero, List.set_cons_succ, List.eraseIdx_cons_zero, List.eraseIdx_cons_succ]
          exact ⟨⟨i + 1, rfl, by omega, hs⟩, by omega⟩
        · exact ⟨⟨i + 1, rfl, by omega, hs⟩, by omega⟩
      · refine Disk_Later_spec (k := 2) hs rfl ?_
        simp only [nn_some, add_mk, Nat.zero_add, Nat.add_zero, Nat.reduceAdd, Nat.reduceMul, Option.isNone_some, Option.isNone_none, br_true, br_false, Bool.not_true, Bool.not_false, xI_eq, xB_eq, xS_eq, xP_eq, xL_eq, x0_eq, x2_eq, x3_eq, chk_eq, true_and, and_true, List.set_cons_zero, List.set_cons_succ, List.eraseIdx_cons_zero, List.eraseIdx_cons_succ]
        rw [hlater3]
        exact hK _ hs.drop.drop.drop
  refine great_spec h hr hl hmx hok fun b w hb h => ?_
  simp only [nn_some, add_mk, Nat.zero_add, Nat.add_zero, Nat.reduceAdd, Nat.reduceMul, Option.isNone_some, Option.isNone_none, br_true, br_false, Bool.not_true, Bool.not_false, xI_eq, xB_eq, xS_eq, xP_eq, xL_eq, x0_eq, x2_eq, x3_eq, chk_eq, true_and, and_true, List.set_cons_zero, List.set_cons_succ, List.eraseIdx_cons_zero, List.eraseIdx_cons_succ]
  refine br_of (fun h1 => go _ w h (fun hf => by cases hf)) (fun h1 => ?_)
  refine great_spec h hr' hl' hmx' hok' fun b' w hb' h => ?_
  simp only [nn_some, add_mk, Nat.zero_add, Nat.add_zero, Nat.reduceAdd, Nat.reduceMul, Option.isNone_some, Option.isNone_none, br_true, br_false, Bool.not_true, Bool.not_false, xI_eq, xB_eq, xS_eq, xP_eq, xL_eq, x0_eq, x2_eq, x3_eq, chk_eq, true_and, and_true, List.set_cons_zero, List.set_cons_succ, List.eraseIdx_cons_zero, List.eraseIdx_cons_succ]
  refine br_of (fun h1 => go _ w h (fun hf => by cases hf)) (fun h1' => ?_)
  refine br_dec (fun h2 => go _ w h (fun hf => by cases hf)) (fun h2 => ?_)
  exact go _ w h (fun hf => ⟨by omega, by have := of_decide_eq_false hf; omega, hb h1, hb' h1'⟩)

theorem Lasts_ok {a0 a3 a4 a5 : Int} {a1 a2 : Option Addr} {n1 c1 n2 c2 : Nat} {x1 x2 : List Value} (_ : (Lit.int .i64 a0).wf = true) (ro1 : Ro W a1 n1 5 x1) (el1 : Elems [.i .i64, .i .i64, .s, .i .u64, .i .i64] n1 x1) (mx1 : n1 ≤ maxLen)
    (ro2 : Ro W a2 n2 5 x2) (el2 : Elems [.i .i64, .i .i64, .s, .i .u64, .i .i64] n2 x2) (mx2 : n2 ≤ maxLen) (_ : (Lit.int .u64 a3).wf = true) (_ : (Lit.int .i64 a4).wf = true) (_ : (Lit.int .i64 a5).wf = true) :
    bondstorelaw04_PlatterLasts.u [.int .i64 a0, .slice a1 n1 c1, .slice a2 n2 c2, .int .u64 a3, .int .i64 a4, .int .i64 a5] (fun v w' => v = .bool true ∧ Below W.heap.size W w') W := by
  obtain ⟨cs, h1, h2, h3⟩ := elems_calls el1 ro1.1
  obtain ⟨cs', h1', h2', h3'⟩ := elems_calls el2 ro2.1
  subst h2 h2'
  unfold bondstorelaw04_PlatterLasts.u
  exact Lasts_spec (K := fun v w' => v = .bool true ∧ Below W.heap.size W w') (St.start W) ro1 h1 mx1 h3 ro2 h1' mx2 h3' (fun w' h => ⟨rfl, h.below⟩)
end
end Go.Sep
